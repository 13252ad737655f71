import Derived.IntWalk
import Derived.Test.YtgllekalddijbaaGreatUB
set_option linter.unusedVariables false
set_option linter.unusedSimpArgs false
set_option linter.unusedSectionVars false
set_option maxRecDepth 100000
set_option maxHeartbeats 4000000
namespace Go.Ab
def zf6 (x:Value) (k:Value->Prop):Prop:=
 match x with
 | .int t n=>k (.int t n)
 | .bool b=>k (.bool b)
 | .string s=>k (.string s)
 | x=>k x
def z8 (n:Nat) (k:Nat->Prop):Prop:=
 match n with
 | 0=>k 0
 | 1=>k 1
 | 2=>k 2
 | 3=>k 3
 | 4=>k 4
 | 5=>k 5
 | 6=>k 6
 | 7=>k 7
 | 8=>k 8
 | 9=>k 9
 | 10=>k 10
 | 11=>k 11
 | 12=>k 12
 | 13=>k 13
 | 14=>k 14
 | 15=>k 15
 | 16=>k 16
 | 17=>k 17
 | 18=>k 18
 | 19=>k 19
 | 20=>k 20
 | 21=>k 21
 | 22=>k 22
 | 23=>k 23
 | 24=>k 24
 | 25=>k 25
 | 26=>k 26
 | 27=>k 27
 | 28=>k 28
 | 29=>k 29
 | 30=>k 30
 | 31=>k 31
 | 32=>k 32
 | 33=>k 33
 | 34=>k 34
 | 35=>k 35
 | 36=>k 36
 | 37=>k 37
 | 38=>k 38
 | 39=>k 39
 | 40=>k 40
 | 41=>k 41
 | 42=>k 42
 | 43=>k 43
 | 44=>k 44
 | 45=>k 45
 | 46=>k 46
 | 47=>k 47
 | 48=>k 48
 | 49=>k 49
 | 50=>k 50
 | 51=>k 51
 | 52=>k 52
 | 53=>k 53
 | 54=>k 54
 | 55=>k 55
 | 56=>k 56
 | 57=>k 57
 | 58=>k 58
 | 59=>k 59
 | 60=>k 60
 | 61=>k 61
 | 62=>k 62
 | 63=>k 63
 | 64=>k 64
 | n=>k n
theorem zE {n:Nat} {k:Nat->Prop} (h:z8 n k):k n:=by
 unfold z8 at h
 split at h <;> exact h
def qD {α:Type}:List α->(List α->Prop)->Prop
 | [],k=>k []
 | x::xs,k=>qD xs fun ys=>k (x::ys)
theorem zZ {α:Type}:∀ {l:List α} {k:List α->Prop},qD l k->k l
 | [],k,h=>h
 | x::xs,k,h=>zZ (l:=xs) (k:=fun ys=>k (x::ys)) h
def zR (c:C) (k:C->Prop):Prop:=
 match c with
 | .v x=>zf6 x fun x=>k (.v x)
 | .lst o sz rows=>k (.lst o sz rows)
 | .qv cells=>qD cells fun cells=>k (.qv cells)
 | .ref id hops sz i j=>z8 id fun id=>z8 sz fun sz=>z8 j fun j=>k (.ref id hops sz i j)
 | .sl id hops sz lo len full=>z8 id fun id=>k (.sl id hops sz lo len full)
 | .fn f first caps=>k (.fn f first caps)
 | .mp id=>z8 id fun id=>k (.mp id)
 | .agg cs=>qD cs fun cs=>k (.agg cs)
 | .tup cs=>qD cs fun cs=>k (.tup cs)
 | .un=>k .un
 | .za=>k .za
 | .gl id sz rows=>z8 id fun id=>k (.gl id sz rows)
 | .ifc t c=>k (.ifc t c)
 | .rc r=>k (.rc r)
theorem zeV {x:Value} {k:Value->Prop} (h:zf6 x k):k x:=by
 unfold zf6 at h
 split at h <;> exact h
theorem zu {c:C} {k:C->Prop} (h:zR c k):k c:=by
 cases c with
 | v x=>exact zeV (k:=fun x=>k (.v x)) h
 | qv cells=>exact zZ (k:=fun cells=>k (.qv cells)) h
 | ref id hops sz i j=>exact zE (k:=fun j=>k (.ref id hops sz i j)) (zE (k:=fun sz=>z8 j fun j=>k (.ref id hops sz i j)) (zE (k:=fun id=>z8 sz fun sz=>z8 j fun j=>k (.ref id hops sz i j)) h))
 | sl id hops sz lo len full=>exact zE (k:=fun id=>k (.sl id hops sz lo len full)) h
 | mp id=>exact zE (k:=fun id=>k (.mp id)) h
 | gl id sz rows=>exact zE (k:=fun id=>k (.gl id sz rows)) h
 | agg cs=>exact zZ (k:=fun cs=>k (.agg cs)) h
 | tup cs=>exact zZ (k:=fun cs=>k (.tup cs)) h
 | _=>exact h
def jS {α:Type} (f:α->(α->Prop)->Prop):List α->(List α->Prop)->Prop
 | [],k=>k []
 | x::xs,k=>f x fun x=>jS f xs fun xs=>k (x::xs)
theorem zQ {α:Type} {f:α->(α->Prop)->Prop} (hf:∀ x k,f x k->k x):∀ {l:List α} {k:List α->Prop},jS f l k->k l
 | [],k,h=>h
 | x::xs,k,h=>zQ hf (l:=xs) (k:=fun xs=>k (x::xs)) (hf x _ h)
def zdO (ob:Ob) (k:Ob->Prop):Prop:=
 match ob with
 | ⟨kind,ty,sz,rows,fz⟩=>match kind with
  | 1=>z8 sz fun sz=>jS (jS zR) rows fun rows=>k ⟨1,ty,sz,rows,fz⟩
  | kd=>k ⟨kd,ty,sz,rows,fz⟩
theorem zdP {ob:Ob} {k:Ob->Prop} (h:zdO ob k):k ob:=by
 obtain ⟨kind,ty,sz,rows,fz⟩:=ob
 unfold zdO at h
 dsimp only at h
 split at h
 ·exact zQ (fun _ _ h=>zQ (fun _ _ h=>zu h) h) (k:=fun rows=>k ⟨1,ty,sz,rows,fz⟩) (zE (k:=fun sz=>jS (jS zR) rows fun rows=>k ⟨1,ty,sz,rows,fz⟩) h)
 ·exact h
def zbP (H:ze) (k:ze->Prop):Prop:=jS zdO H k
theorem yl {H:ze} {k:ze->Prop} (h:zbP H k):k H:=zQ (fun _ _ h=>zdP h) h
def okB (c:C) (k:C->Prop):Prop:=
 match c with
 | .v (.bool b)=>(b=true->k (.v (.bool true)))∧(b=false->k (.v (.bool false)))
 | c=>k c
def zly (c:C) (k:C->Prop):Prop:=
 match c with
 | .v (.bool b)=>match b with
  | true=>k (.v (.bool true))
  | false=>k (.v (.bool false))
 | c=>zR c k
theorem zc8 {c:C} {k:C->Prop} (h:zly c k):k c:=by
 unfold zly at h
 split at h
 ·rename_i b;cases b <;> exact h
 ·exact zu h
theorem z7 {c:C} {k:C->Prop} (h:okB c k):k c:=by
 unfold okB at h
 split at h
 ·rename_i b;cases b
  ·exact h.2 rfl
  ·exact h.1 rfl
 ·exact h
def zem {α:Type}:List α->Nat->α->(List α->Prop)->Prop
 | [],_,_,k=>k []
 | _::xs,0,y,k=>k (y::xs)
 | x::xs,n+1,y,k=>zem xs n y fun ys=>k (x::ys)
theorem xQ {α:Type}:∀ {l:List α} {n:Nat} {y:α} {k:List α->Prop},zem l n y k->k (l.set n y)
 | [],_,_,k,h=>h
 | _::xs,0,y,k,h=>h
 | x::xs,n+1,y,k,h=>xQ (l:=xs) (n:=n) (y:=y) (k:=fun ys=>k (x::ys)) h
def wv (tmps:List C) (dst:Option Tmp) (c:C) (k:List C->Prop):Prop:=
 match dst with
 | some d=>zem tmps d c k
 | none=>k tmps
theorem qn {tmps:List C} {dst:Option Tmp} {c:C} {k:List C->Prop} (h:wv tmps dst c k):k (put tmps dst c):=by
 cases dst with
 | none=>exact h
 | some d=>exact xQ h
def bK (b:Bool) (k:Prop):Prop:=
 match b with
 | true=>k
 | false=>False
theorem zx {b:Bool} {k:Prop} (h:bK b k):b=true∧k:=by
 cases b
 ·exact h.elim
 ·exact ⟨rfl,h⟩
def za7 (ρ:Operand->C) (x:Option Operand) (dflt:Nat) (k:Nat->Prop):Prop:=
 match x with
 | none=>k dflt
 | some y=>match ρ y with
  | .v (.int _ n)=>0<=n∧k n.toNat
  | _=>False
theorem jh {ρ:Operand->C} {x:Option Operand} {dflt:Nat} {k:Nat->Prop} (h:za7 ρ x dflt k):∃ n,IsB ρ x dflt n∧k n:=by
 unfold za7 at h
 unfold IsB
 cases x with
 | none=>exact ⟨dflt,rfl,h⟩
 | some y=>
  dsimp only at h
  split at h
  ·rename_i kd n e
   exact ⟨n.toNat,⟨kd,by rw [e,Int.toNat_of_nonneg h.1]⟩,h.2⟩
  ·exact h.elim
def wa (place:Nat->Option (Nat × Nat)):List C->List (Nat × C)->(List C->Prop)->Prop
 | cells,[],k=>k cells
 | cells,(i,c)::rest,k=>match place i with
  | none=>False
  | some (off,size)=>bK (kH c && (c.cells.length == size) && decide (off+size<=cells.length)) <| jS zR (jg off c.cells cells) fun cells=>wa place cells rest k
theorem ks {place:Nat->Option (Nat × Nat)}:∀ {parts:List (Nat × C)} {cells:List C} {k:List C->Prop},wa place cells parts k->∃ cs,k9 place cells parts=some cs∧k cs
 | [],cells,k,h=>⟨cells,rfl,h⟩
 | (i,c)::rest,cells,k,h=>by
  unfold wa at h
  split at h
  ·exact h.elim
  ·rename_i off size hp
   obtain ⟨h1,h2⟩:=zx h
   have h3:=zQ (fun _ _ h=>zu h) (k:=fun cells=>wa place cells rest k) h2
   obtain ⟨cs,h4,h5⟩:=ks h3
   refine ⟨cs,?_,h5⟩
   simp only [k9,hp]
   rw [if_pos h1]
   exact h4
def zfS (P:Program) (t:TypeId) (parts:List (Nat × C)) (k:List C->Prop):Prop:=
 match vb P t,P.underlying t with
 | some z,some (.array _ e)=>match P.info? e with
  | some ie=>jS zR z fun z=>wa (fun i=>some (i * ie.size,ie.size)) z parts k
  | none=>False
 | some z,some (.struct fields)=>match fields.toList.mapM (fun f=>(P.info? f.type).map fun i=>(f.offset,i.size)) with
  | some places=>qD places fun places=>jS zR z fun z=>wa (places.toArray[·]?) z parts k
  | none=>False
 | _,_=>False
theorem zaz {P:Program} {t:TypeId} {parts:List (Nat × C)} {k:List C->Prop} (h:zfS P t parts k):∃ cs,zdy P t parts=some cs∧k cs:=by
 unfold zfS at h
 unfold zdy
 split at h
 ·rename_i z n e hz hu
  simp only [hz,hu]
  split at h
  ·rename_i ie hie
   simp only [hie]
   exact ks (zQ (fun _ _ h=>zu h) (k:=fun z=>wa (fun i=>some (i * ie.size,ie.size)) z parts k) h)
  ·exact h.elim
 ·rename_i z fields hz hu
  simp only [hz,hu]
  split at h
  ·rename_i places hpl
   simp only [hpl]
   have h1:=zZ (k:=fun places:List (Nat × Nat)=>jS zR z fun z=>wa (places.toArray[·]?) z parts k) h
   exact ks (zQ (fun _ _ h=>zu h) (k:=fun z=>wa (places.toArray[·]?) z parts k) h1)
  ·exact h.elim
 ·exact h.elim
def zgU (P:Program) (H:ze) (ρ:Operand->C) (t:TypeId) (x:Operand) (lo hi mx:Option Operand) (K:C->ze->Prop):Prop:=
 match P.underlying t with
 | some (.slice e)=>match P.info? e with
  | some i=>match ρ x with
   | .lst fo sz rows=>(rows=[]∨sz=i.size)∧match mx with
    | none=>match hi with
     | none=>za7 ρ lo 0 fun l=>l<=rows.length∧K (.lst (if fo == 1 then 1 else 0) sz (rows.drop l)) H
     | some hh=>za7 ρ lo 0 fun l=>za7 ρ (some hh) rows.length fun h=>l<=h∧h<=rows.length∧K (.lst 0 sz ((rows.drop l).take (h - l))) H
    | some m=>match hi with
     | some hh=>za7 ρ lo 0 fun l=>za7 ρ (some hh) 0 fun h=>za7 ρ (some m) 0 fun m'=>m'=h∧l<=h∧h<=rows.length∧K (.lst 1 sz ((rows.drop l).take (h - l))) H
     | none=>False
   | .sl id hops sz lo0 len full=>match mx with
    | none=>sz=i.size∧za7 ρ lo 0 fun l=>za7 ρ hi len fun h=>l<=h∧h<=len∧(l=0∨l < h)∧(full=false∨h=len)∧K (.sl id hops sz (lo0+l) (h - l) full) H
    | some _=>False
   | _=>False
  | none=>False
 | some .string=>match ρ x with
  | .v (.string s)=>match s with
   | ⟨⟨b⟩⟩=>match mx with
    | none=>za7 ρ lo 0 fun l=>za7 ρ hi b.length fun h=>l<=h∧h<=b.length∧K (.v (.string ⟨⟨(b.take h).drop l⟩⟩)) H
    | some _=>False
  | _=>False
 | _=>False
def zgk (P:Program) (H:ze) (ρ:Operand->C) (t:TypeId) (x y:Operand) (K:C->ze->Prop):Prop:=
 match P.underlying t with
 | some (.slice e)=>match P.info? e with
  | some i=>match ρ y with
   | .v (.int _ n)=>match ρ x with
    | .lst o sz rows=>bK ((o == 0 || o == 1) && sz == i.size) <| 0<=n∧∃ r,rows[n.toNat]?= some r∧K (.qv r) H
    | .sl id hops sz lo len _=>bK (sz == i.size) <| 0<=n∧n.toNat < len∧K (.ref id hops sz (lo+n.toNat) 0) H
    | _=>False
   | _=>False
  | none=>False
 | some (.array len e)=>match P.info? e with
  | some i=>match ρ y with
   | .v (.int _ n)=>match ym (ρ x) (n.toNat * i.size) with
    | some c=>0<=n∧n < len∧zR c fun c=>K c H
    | none=>False
   | _=>False
  | none=>False
 | _=>False
def zgl (P:Program) (H:ze) (ρ:Operand->C) (t:TypeId) (x y:Operand) (K:C->ze->Prop):Prop:=
 match ρ y with
 | .v (.int _ n)=>match P.underlying t with
  | some .string=>match ρ x with
   | .v (.string s)=>match s with
    | ⟨⟨b⟩⟩=>0<=n∧∃ c,b[n.toNat]?= some c∧K (.v (.int .u8 c.toNat)) H
   | _=>False
  | some (.array len e)=>match P.info? e with
   | some i=>match ρ x with
    | .agg cs=>0<=n∧n < len∧∃ c,kh P e cs (n.toNat * i.size)=some c∧okB c fun c=>zR c fun c=>K c H
    | _=>False
   | none=>False
  | _=>False
 | _=>False
def zf5 (P:Program) (H:ze) (ρ:Operand->C) (t:TypeId) (x:Operand) (f:Nat) (K:C->ze->Prop):Prop:=
 match P.underlying t with
 | some (.struct fs)=>match fs[f]? with
  | some fd=>match ρ x with
   | .agg cs=>match kh P fd.type cs fd.offset with
    | some c=>okB c fun c=>zR c fun c=>K c H
    | none=>False
   | _=>False
  | none=>False
 | _=>False
def zf4 (P:Program) (H:ze) (ρ:Operand->C) (t:TypeId) (x:Operand) (f:Nat) (K:C->ze->Prop):Prop:=
 match P.underlying t with
 | some (.struct fs)=>match fs[f]? with
  | some fd=>match P.info? fd.type with
   | some i=>match ym (ρ x) fd.offset with
    | some c=>bK (i.size != 0) <| zR c fun c=>K c H
    | none=>False
   | none=>False
  | none=>False
 | _=>False
def zbg (P:Program) (H:ze) (x:C) (sz':Nat) (rows':List (List C)) (e:TypeId) (i:TypeInfo) (K:C->ze->Prop):Prop:=
 match rows' with
 | []=>(qW H (asL x)).isSome=true∧K (asL x) H
 | r'::rs'=>bK (sz' == i.size) <| z8 i.size fun sz0=>z8 H.length fun m=>match x with
  | .lst 1 sz rows=>(rows=[]∨sz=sz0)∧rows.length+(rs'.length+1)<=maxLen∧(rows.length+(rs'.length+1)) * i.bytes<=140737488355328∧
    qD (H++[⟨2,e,sz0,rows++r'::rs',0⟩]) fun H'=>K (.sl m [] sz0 0 (rows.length+(rs'.length+1)) false) H'
  | .sl id [] sz 0 n false=>match H[id]? with
   | some ob=>bK (sz == sz0 && ob.kind == 2 && ob.ty == e && ob.sz == sz0) <| ob.rows.length=n∧ob.rows.all (·.all zw)=true∧n+(rs'.length+1)<=maxLen∧(n+(rs'.length+1)) * i.bytes<=140737488355328∧
     qD (q4 H id++[⟨2,e,sz0,ob.rows++r'::rs',ob.fz⟩]) fun H'=>K (.sl m [] sz0 0 (n+(rs'.length+1)) false) H'
   | none=>False
  | _=>False
def zg8 (H:ze) (sz:Nat) (rows:List (List C)) (sz':Nat) (rows':List (List C)) (e:TypeId) (i:TypeInfo) (K:C->ze->Prop):Prop:=
 z8 i.size fun sz0=>z8 H.length fun m=>(rows=[]∨sz=sz0)∧(rows'=[]∨sz'=sz0)∧rows.length+rows'.length<=maxLen∧(rows.length+rows'.length) * i.bytes<=140737488355328∧
  qD (H++[⟨4,e,sz0,rows++rows',0⟩]) fun H'=>K (.gl m sz0 (rows++rows')) H'
def zdu (P:Program) (H:ze) (ρ:Operand->C) (x y:Operand) (e:TypeId) (i:TypeInfo) (K:C->ze->Prop):Prop:=
 match qW H (asL (ρ y)) with
 | some (sz',rows')=>match ρ x with
  | .gl id sz rows=>match H[id]? with
   | some ob=>bK (sz == i.size) <| z8 i.size fun sz0=>ob=⟨4,e,sz,rows,0⟩∧(rows'=[]∨sz'=sz0)∧rows.length+rows'.length<=maxLen∧(rows.length+rows'.length) * i.bytes<=140737488355328∧
     zem H id ⟨4,e,sz0,rows++rows',0⟩ fun H'=>K (.gl id sz0 (rows++rows')) H'
   | none=>False
  | .lst 1 sz rows=>zg8 H sz rows sz' rows' e i K∨zbg P H (.lst 1 sz rows) sz' rows' e i K
  | x=>zbg P H x sz' rows' e i K
 | none=>False
def zlU (H:ze) (op:BinOp) (a b:List UInt8) (K:C->ze->Prop):Prop:=
 match op with
 | .eql=>okB (.v (.bool (a == b))) fun c=>K c H
 | .neq=>okB (.v (.bool (!(a == b)))) fun c=>K c H
 | .add=>a.length+b.length<=9223372036854775807∧K (.v (.string ⟨⟨a++b⟩⟩)) H
 | _=>False
def zhb (P:Program) (H:ze) (ρ:Operand->C) (o:Oper) (cl:Call) (K:C->ze->Prop):Prop:=
 match cl.callee with
 | .value x=>match ρ x with
  | .fn f first caps=>bK (zA P f) <| ∃ r H',zb P f H (first++(cl.args.toList.map fun x=>asL (ρ x))++caps) r H'∧okB r fun r=>K r H'
  | .v (.func g first caps)=>match g with
   | .yield l=>bK (first.isEmpty && caps.isEmpty) <| ∃ r H',qK P l H (cl.args.toList.map ρ) r H'∧okB r fun r=>K r H'
   | _=>False
  | _=>False
 | .invoke x name=>match ρ x with
  | .ifc t c=>∃ f,zjr P t name f=true∧zA P f=true∧∃ r H',zb P f H (c::(cl.args.toList.map ρ)) r H'∧okB r fun r=>K r H'
  | _=>False
 | .builtin .len=>match cl.args.toList,cl.argTypes.toList with
  | [x],[t]=>match P.underlying t with
   | some (.slice _)=>match zks (asL (ρ x)) with
    | some n=>K (.v (.int .i64 n)) H
    | none=>False
   | some .string=>match ρ x with
    | .v (.string s)=>match s with
     | ⟨⟨b⟩⟩=>K (.v (.int .i64 b.length)) H
    | _=>False
   | _=>match wA P (execOp (fun x=>zcL (ρ x)) o) with
    | some (.value v)=>bK (o.op.operands.toList.all (fun x=>isV (ρ x)) && v.oneCell') <| okB (.v v) fun c=>K c H
    | _=>False
  | _,_=>False
 | .builtin .append=>match cl.args.toList,cl.argTypes.toList with
  | [x,y],[t,t']=>bK (t' == t) <| match P.underlying t with
   | some (.slice e)=>match P.info? e with
    | some i=>match i.zero with
     | some z=>bK (z.cells.size == i.size) <| zdu P H ρ x y e i K
     | none=>False
    | none=>False
   | _=>False
  | _,_=>False
 | _=>match wA P (execOp (fun x=>zcL (ρ x)) o) with
  | some (.value v)=>bK (o.op.operands.toList.all (fun x=>isV (ρ x)) && v.oneCell') <| okB (.v v) fun c=>K c H
  | _=>False
def eqK (P:Program) (H:ze) (o:Oper) (ρ:Operand->C) (op:BinOp) (t:TypeId) (xs ys:List C) (K:C->ze->Prop):Prop:=
 (!P.eqGuardType P.depth t && vu P 9 t)=true∧match eqC P 9 t (.agg xs) (.agg ys) with
  | some b=>match op with
   | .eql=>okB (.v (.bool b)) fun c=>K c H
   | .neq=>okB (.v (.bool (!b))) fun c=>K c H
   | _=>False
  | none=>False
def zfm (P:Program) (t:TypeId) (id:Nat) (hops:List Hop) (i k:Nat) (r:List C) (K:C->Prop):Prop:=
 match P.underlying t,P.info? t with
 | some d,some inf=>match vP d with
  | true=>k+inf.size<=r.length∧jS zR (j3 id hops i k ((r.drop k).take inf.size)) fun cs=>K (.agg cs)
  | false=>k+1<=r.length∧match j3 id hops i k ((r.drop k).take 1) with
   | [x]=>okB x fun x=>zR x K
   | _=>False
 | _,_=>False
def ze9 (P:Program) (H:ze) (t:TypeId) (c:C) (K:C->Prop):Prop:=
 match c with
 | .ref id hops sz i k=>match H[id]? with
  | some ⟨kind,ty,osz,orows,fz⟩=>match kind with
   | 2=>match hops with
    | []=>bK (osz == sz) <| ∃ r,orows[i]?= some r∧zfm P t id [] i k r K
    | h::hs=>∃ rows r,zy H id (h::hs)=some (sz,rows)∧rows[i]?= some r∧zfm P t id (h::hs) i k r K
   | 1=>match ty with
    | 0=>bK (osz == sz && hops.isEmpty) <| ∃ r,orows[i]?= some r∧zfm P t id [] i k r K
    | _=>match x2 P H t (.ref id hops sz i k) with
     | some c=>okB c fun c=>zR c K
     | none=>False
   | _=>match x2 P H t (.ref id hops sz i k) with
    | some c=>okB c fun c=>zR c K
    | none=>False
  | none=>False
 | c=>match x2 P H t c with
  | some c=>okB c fun c=>zR c K
  | none=>False
theorem kC {P:Program} {H:ze} {t:TypeId} {id:Nat} {hops:List Hop} {sz i k:Nat} {rows:List (List C)} {r:List C} {K:C->Prop} (hg:zy H id hops=some (sz,rows)) (hr:rows[i]?= some r) (h:zfm P t id hops i k r K):
  ∃ c,x2 P H t (.ref id hops sz i k)=some c∧K c:=by
 unfold zfm at h
 split at h
 ·rename_i d inf hd hi
  have hrd:∀ n,k+n<=r.length->vB H (.ref id hops sz i k) n=some (j3 id hops i k ((r.drop k).take n)):=fun n hn=>by simp [vB,hg,hr,hn]
  split at h
  ·rename_i hag
   obtain ⟨h1,h2⟩:=h
   refine ⟨_,?_,zQ (fun _ _ h=>zu h) (k:=fun cs=>K (.agg cs)) h2⟩
   unfold x2
   rw [hd,hi]
   simp only [hag,if_true]
   rw [hrd _ h1]
   rfl
  ·rename_i hag
   obtain ⟨h1,h2⟩:=h
   split at h2
   ·rename_i x hx
    refine ⟨x,?_,zu (z7 (k:=fun x=>zR x K) h2)⟩
    unfold x2
    rw [hd,hi]
    simp only [hag]
    rw [hrd _ h1,hx]
    rfl
   ·exact h2.elim
 ·exact h.elim
theorem yX {P:Program} {H:ze} {t:TypeId} {c:C} {K:C->Prop} (h:ze9 P H t c K):∃ c',x2 P H t c=some c'∧K c':=by
 unfold ze9 at h
 split at h
 ·split at h
  ·rename_i id hops sz i k kind ty osz orows fz hob
   split at h
   ·split at h
    ·obtain ⟨h1,r,h2,h3⟩:=zx h
     simp only [beq_iff_eq] at h1
     exact kC (by unfold zy;rw [hob];simp [zS,h1]) h2 h3
    ·obtain ⟨rows,r,h1,h2,h3⟩:=h
     exact kC h1 h2 h3
   ·split at h
    ·obtain ⟨h1,r,h2,h3⟩:=zx h
     simp only [Bool.and_eq_true,beq_iff_eq,List.isEmpty_iff] at h1
     obtain ⟨h1,rfl⟩:=h1
     exact kC (by unfold zy;rw [hob];simp [zS,h1]) h2 h3
    ·split at h
     ·rename_i c hc
      exact ⟨c,hc,zu (z7 (k:=fun c=>zR c K) h)⟩
     ·exact h.elim
   ·split at h
    ·rename_i c hc
     exact ⟨c,hc,zu (z7 (k:=fun c=>zR c K) h)⟩
    ·exact h.elim
  ·exact h.elim
 ·split at h
  ·rename_i c hc
   exact ⟨c,hc,zu (z7 (k:=fun c=>zR c K) h)⟩
  ·exact h.elim
def xi (r:List C) (k:Nat) (cs:List C) (K:List C->Prop):Prop:=bK (Nat.ble (k+cs.length) r.length) <| qD (jg k cs r) K
theorem zar {r:List C} {k:Nat} {cs:List C} {K:List C->Prop} (h:xi r k cs K):k+cs.length<=r.length∧K (jg k cs r):=
 ⟨Nat.le_of_ble_eq_true (zx h).1,zZ (zx h).2⟩
def zen (P:Program) (H:ze) (t:TypeId) (a x:C) (K:ze->Prop):Prop:=
 match a with
 | .ref id hops sz i k=>match H[id]? with
  | some ⟨kind,ty,osz,orows,fz⟩=>match kind with
   | 2=>match P.info? t with
    | some inf=>bK (kH x && (x.cells.length == inf.size) && x.cells.all jz) <| jS zR x.cells fun cs=>match hops with
     | []=>bK (osz == sz && fz == 0) <| ∃ r,orows[i]?= some r∧((r.drop k).take cs.length).all zw=true∧xi r k cs fun r'=>zem H id ⟨2,ty,osz,orows.set i r',0⟩ K
     | h::hs=>bK (fz == 0) <| ∃ rows r,zy H id (h::hs)=some (sz,rows)∧rows[i]?= some r∧((r.drop k).take cs.length).all zw=true∧xi r k cs fun r'=>zem H id ⟨2,ty,osz,wD orows (h::hs) (fun rows=>rows.set i r'),0⟩ K
    | none=>False
   | 1=>match ty with
    | 0=>match P.info? t with
     | some inf=>bK (kH x && (x.cells.length == inf.size)) <| jS zR x.cells fun cs=>bK (osz == sz && fz == 0 && hops.isEmpty) <| ∃ r,orows[i]?= some r∧((r.drop k).take cs.length).all zw=true∧xi r k cs fun r'=>zem H id ⟨1,0,osz,orows.set i r',0⟩ K
     | none=>False
    | _=>match hops,orows,i with
     | [],[r],0=>match P.info? t with
      | some inf=>bK (osz == sz && fz == 0 && kH x && (x.cells.length == inf.size) && ((r.drop k).take x.cells.length).all zw) <| jS zR x.cells fun cs=>xi r k cs fun r'=>zem H id ⟨1,ty,osz,[r'],0⟩ K
      | none=>False
     | hops,_,i=>match j1 P H t (.ref id hops sz i k) x with
      | some H'=>zbP H' K
      | none=>False
   | _=>match j1 P H t (.ref id hops sz i k) x with
    | some H'=>zbP H' K
    | none=>False
  | none=>False
 | a=>match j1 P H t a x with
  | some H'=>zbP H' K
  | none=>False
theorem xe {α:Type} {l:List α} {i:Nat} {r:α} (f:α->α) (h:l[i]?= some r):l.modify i f=l.set i (f r):=by
 apply List.ext_getElem?
 intro j
 rw [List.getElem?_modify,List.getElem?_set]
 split
 ·rename_i e
  subst e
  rw [if_pos (List.getElem?_eq_some_iff.1 h).1,h]
  rfl
 ·simp
theorem zck {f g:List (List C)->List (List C)}:∀ (hops:List Hop) (sz:Nat) (rows:List (List C)) {sz':Nat} {rows':List (List C)},xb sz rows hops=some (sz',rows')->f rows'=g rows'->wD rows hops f=wD rows hops g
 | [],sz,rows,sz',rows',h,he=>by
  rw [zS] at h
  cases h
  exact he
 | (i,k)::hs,sz,rows,sz',rows',h,he=>by
  rw [qT] at h
  rw [vT,vT]
  split at h
  ·rename_i sz2 rows2 hc
   try rw [hc]
   simp only [zck hs sz2 rows2 h he]
  ·cases h
theorem za4 {P:Program} {H:ze} {t:TypeId} {a x:C} {K:ze->Prop} (h:zen P H t a x K):∃ H',j1 P H t a x=some H'∧K H':=by
 unfold zen at h
 cases a with
 | ref id hops sz i k=>
  dsimp only at h
  split at h
  ·rename_i kind ty osz orows fz hob
   split at h
   ·split at h
    ·rename_i inf hinf
     obtain ⟨hv,h⟩:=zx h
     have h:=zQ (fun _ _ h=>zu h) h
     simp only [Bool.and_eq_true,beq_iff_eq] at hv
     have go:∀ hops rows r,zy H id hops=some (sz,rows)->rows[i]?= some r->fz=0->((r.drop k).take x.cells.length).all zw=true->(xi r k x.cells fun r'=>zem H id ⟨2,ty,osz,wD orows hops (fun rows=>rows.set i r'),0⟩ K)->
       ∃ H',j1 P H t (.ref id hops sz i k) x=some H'∧K H':=fun hops rows r h1 h2 h0 h3 h4=>by
      obtain ⟨h5,h6⟩:=zar h4
      have h6:=xQ h6
      refine ⟨_,?_,h6⟩
      unfold j1
      rw [hinf]
      dsimp only
      rw [h1,hob]
      dsimp only
      rw [h2]
      dsimp only
      rw [if_pos]
      ·congr 1
       unfold wC
       rw [xe _ hob]
       congr 1
       dsimp only
       subst h0
       congr 1
       obtain ⟨ob2,e1,_,e3⟩:=z6 h1
       rw [hob] at e1
       cases e1
       exact zck hops _ _ e3 (by unfold xI;rw [xe _ h2])
      ·simp only [Bool.and_eq_true,beq_iff_eq,Bool.or_eq_true,decide_eq_true_eq]
       exact ⟨⟨⟨⟨⟨⟨⟨trivial,hv.1.1⟩,hv.1.2⟩,h5⟩,h3⟩,.inr hv.2⟩,.inr (by omega)⟩,.inr h0⟩
     split at h
     ·obtain ⟨h1,r,h2,h3,h4⟩:=zx h
      simp only [Bool.and_eq_true,beq_iff_eq] at h1
      exact go [] orows r (by unfold zy;rw [hob];simp [zS,h1.1]) h2 h1.2 h3 h4
     ·obtain ⟨h1,rows,r,h2,h3,h4,h5⟩:=zx h
      simp only [beq_iff_eq] at h1
      exact go _ rows r h2 h3 h1 h4 h5
    ·exact h.elim
   ·split at h
    ·split at h
     ·rename_i inf hinf
      obtain ⟨hv,h⟩:=zx h
      have h:=zQ (fun _ _ h=>zu h) h
      obtain ⟨h1,r,h2,h3,h4⟩:=zx h
      obtain ⟨h5,h6⟩:=zar h4
      have h6:=xQ h6
      simp only [Bool.and_eq_true,beq_iff_eq,List.isEmpty_iff] at hv h1
      obtain ⟨⟨rfl,rfl⟩,rfl⟩:=h1
      refine ⟨_,?_,h6⟩
      have hg:zy H id []=some (osz,orows):=by unfold zy;rw [hob];simp [zS]
      unfold j1
      rw [hinf]
      dsimp only
      rw [hg,hob]
      dsimp only
      rw [h2]
      dsimp only
      rw [if_pos]
      ·congr 1
       unfold wC
       rw [xe _ hob]
       congr 1
       dsimp only
       rw [wE]
       unfold xI
       rw [xe _ h2]
      ·simp only [Bool.and_eq_true,beq_iff_eq,Bool.or_eq_true,decide_eq_true_eq]
       exact ⟨⟨⟨⟨⟨⟨⟨trivial,hv.1⟩,hv.2⟩,h5⟩,h3⟩,.inl trivial⟩,.inr (by omega)⟩,.inr trivial⟩
     ·exact h.elim
    ·split at h
     ·rename_i r
      split at h
      ·rename_i inf hinf
       obtain ⟨hv,h⟩:=zx h
       have h:=zQ (fun _ _ h=>zu h) h
       obtain ⟨h5,h6⟩:=zar h
       have h6:=xQ h6
       simp only [Bool.and_eq_true,beq_iff_eq] at hv
       refine ⟨_,?_,h6⟩
       have h1:zy H id []=some (osz,[r]):=by unfold zy;rw [hob];simp [zS]
       unfold j1
       rw [hinf]
       dsimp only
       rw [h1,hob]
       dsimp only
       rw [show [r][0]?= some r from rfl]
       dsimp only
       rw [if_pos]
       ·congr 1
        unfold wC
        rw [xe _ hob]
        congr 1
        dsimp only
        obtain ⟨⟨⟨⟨_,rfl⟩,_⟩,_⟩,_⟩:=hv
        rw [wE]
        unfold xI
        rfl
       ·simp only [Bool.and_eq_true,beq_iff_eq,Bool.or_eq_true,decide_eq_true_eq]
        obtain ⟨⟨⟨⟨e1,e2⟩,e3⟩,e4⟩,e5⟩:=hv
        exact ⟨⟨⟨⟨⟨⟨⟨e1,e3⟩,e4⟩,h5⟩,e5⟩,.inl trivial⟩,.inr (by omega)⟩,.inr e2⟩
      ·exact h.elim
     ·split at h
      ·rename_i H' hc
       exact ⟨H',hc,yl h⟩
      ·exact h.elim
   ·split at h
    ·rename_i H' hc
     exact ⟨H',hc,yl h⟩
    ·exact h.elim
  ·exact h.elim
 | _=>
  dsimp only at h
  split at h
  ·rename_i H' hc
   exact ⟨H',hc,yl h⟩
  ·exact h.elim
def zkO (H:ze) (a:C):Bool:=
 match a with
 | .ref id _ _ _ _=>match H[id]? with
  | some ob=>match ob.kind with
   | 2=>true
   | 1=>match ob.ty with
    | 0=>true
    | _=>false
   | _=>false
  | none=>false
 | _=>false
def zi2 (P:Program) (H:ze) (ρ:Operand->C) (o:Oper) (src dst:TypeId) (x:Operand) (K:C->ze->Prop):Prop:=
 match Ab.asL (ρ x) with
 | .lst _ sz rows=>match P.underlying src,P.underlying dst with
  | some (.slice e),some .string=>match P.underlying e with
   | some (.int .u8)=>bK (sz == 1) <| ∃ bts:List UInt8,rows=bts.map zbA∧K (.v (.string ⟨⟨bts⟩⟩)) H
   | _=>False
  | _,_=>False
 | _=>match wA P (execOp (fun x=>zcL (ρ x)) o) with
  | some (.value v)=>bK (qU o && o.op.operands.toList.all (fun x=>isV (ρ x)) && v.oneCell') <| okB (.v v) fun c=>K c H
  | _=>False
def zjo (P:Program) (H:ze) (ρ:Operand->C) (t:TypeId) (x y:Operand) (K:C->ze->Prop):Prop:=
 match ρ x,ρ y with
 | .v (.int _ n),.v (.int _ n')=>match P.underlying t with
  | some (.slice e)=>match P.info? e with
   | some i=>match vb P e with
    | some cs=>bK (cs.all jz) <| n'=n∧0<=n∧(i.bytes:Int) * n<=281474976710656∧n<=9223372036854775807∧
      z8 i.size fun sz=>z8 H.length fun m=>qD (H++[⟨2,e,sz,List.replicate n.toNat cs,0⟩]) fun H'=>K (.sl m [] sz 0 n.toNat false) H'
    | none=>False
   | none=>False
  | _=>False
 | _,_=>False
def zjw (o:Oper):Option (BinOp × TypeId × Operand):=
 match o.op with
 | .binOp op t x y _=>match y with
  | .const v=>match v with
   | .slice none 0 0=>some (op,t,x)
   | _=>none
  | _=>none
 | _=>none
def zlC (P:Program) (H:ze) (op:BinOp) (t:TypeId) (x:C) (K:C->ze->Prop):Prop:=
 match P.underlying t with
 | some (.slice _)=>match x with
  | .lst _ _ rows=>match rows with
   | []=>match op with
    | .eql=>K (.v (.bool true)) H∧K (.v (.bool false)) H
    | .neq=>K (.v (.bool true)) H∧K (.v (.bool false)) H
    | _=>False
   | r::rs=>match op with
    | .eql=>r::rs≠[]∧K (.v (.bool false)) H
    | .neq=>r::rs≠[]∧K (.v (.bool true)) H
    | _=>False
  | .sl ..=>match op with
   | .eql=>K (.v (.bool false)) H
   | .neq=>K (.v (.bool true)) H
   | _=>False
  | _=>False
 | _=>False
def zjL (o:Oper):Option (BinOp × TypeId × Operand):=
 match o.op with
 | .binOp op t x y _=>match y with
  | .const v=>match v with
   | .pointer p=>match p with
    | none=>some (op,t,x)
    | some _=>none
   | _=>none
  | _=>none
 | _=>none
def zgm (x:C):Option Bool:=
 match x with
 | .ref ..=>some false
 | .qv _=>some false
 | .v y=>match y with
  | .pointer p=>match p with
   | none=>some true
   | some _=>some false
  | _=>none
 | _=>none
def zkG (P:Program) (t:TypeId):Bool:=
 match P.underlying t with
 | some (.pointer e)=>e == P.pointee t
 | _=>false
def zlI (P:Program) (H:ze) (op:BinOp) (t:TypeId) (x:C) (K:C->ze->Prop):Prop:=
 match zgm x with
 | some b=>match op with
  | .eql=>bK (zkG P t) <| K (.v (.bool b)) H
  | .neq=>bK (zkG P t) <| K (.v (.bool (!b))) H
  | _=>False
 | none=>False
def y8 (P:Program) (H:ze) (ρ:Operand->C) (o:Oper) (K:C->ze->Prop):Prop:=
 match o.op with
 | .move x=>zR (ρ x) fun c=>K c H
 | .assign x=>zR (ρ x) fun c=>K c H
 | .pick x y z=>match ρ x with
  | .v (.bool b)=>zR (if b then ρ y else ρ z) fun c=>K c H
  | _=>False
 | .alloc t=>match vb P t with
  | some cs=>qD cs fun cs=>z8 cs.length fun n=>z8 H.length fun m=>qD (H++[⟨1,t,n,[cs],0⟩]) fun H'=>K (.ref m [] n 0 0) H'
  | none=>False
 | .box t x=>bK (kH (ρ x)) <| jS zR (ρ x).cells fun cs=>z8 cs.length fun n=>z8 H.length fun m=>qD (H++[⟨1,t,n,[cs],0⟩]) fun H'=>K (.ref m [] n 0 0) H'
 | .fieldAddr t x f=>zf4 P H ρ t x f K
 | .indexAddr t x y=>zgk P H (fun x=>asL (ρ x)) t x y K
 | .index t x y=>zgl P H ρ t x y K
 | .field t x f=>zf5 P H ρ t x f K
 | .load t x=>ze9 P H t (ρ x) fun c=>K c H
 | .store t x y=>match zkO H (ρ x) with
  | true=>zen P H t (ρ x) (x7 (ρ y)) fun H'=>K .un H'
  | false=>zen P H t (ρ x) (ρ y) fun H'=>K .un H'
 | .extract x n=>match ρ x with
  | .tup vs=>match vs[n]? with
   | some c=>okB c fun c=>zR c fun c=>K c H
   | none=>False
  | _=>False
 | .nilCheck x=>bK (zd3 (ρ x)) <| zR (ρ x) fun c=>K c H
 | .makeFunc f first caps=>match f with
  | .func f=>jS zR (first.toList.map ρ) fun a=>jS zR (caps.toList.map ρ) fun b=>K (.fn f a b) H
  | _=>False
 | .build t parts=>zfS P t (parts.toList.map fun p=>(p.1,ρ p.2)) fun cs=>K (.agg cs) H
 | .makeInterface t x=>match P.underlying t with
  | some d=>bK (j0 d) <| zR (ρ x) fun c=>K (.ifc t c) H
  | none=>False
 | .typeAssert x _ t ok=>bK ok <| match ρ x with
  | .ifc t' c=>match P.underlying t with
   | some d=>match t' == t with
    | true=>bK (j0 d) <| K (.tup [c,.v (.bool true)]) H
    | false=>match P.info? t with
     | some i=>bK (j0 d && i.zero.isSome) <| K (.tup [.za,.v (.bool false)]) H
     | none=>False
   | none=>False
  | _=>False
 | .buildSlice t len parts=>match zlz P t len (parts.toList.map fun p=>(p.1,x7 (ρ p.2))) with
  | some c=>match c with
   | .lst o sz rows=>jS (jS zR) rows fun rows=>z8 sz fun sz=>K (.lst o sz rows) H
   | _=>False
  | none=>False
 | .slice t x lo hi mx=>zgU P H (fun x=>asL (ρ x)) t x lo hi mx K
 | .makeSlice t x y=>zjo P H ρ t x y K
 | .lookup ..=>∃ c H',OpV P o ρ H c H'∧K c H'
 | .mapUpdate ..=>∃ c H',OpV P o ρ H c H'∧K c H'
 | .mapEntry ..=>∃ c H',OpV P o ρ H c H'∧K c H'
 | .entryStore ..=>∃ c H',OpV P o ρ H c H'∧K c H'
 | .call cl=>zhb P H ρ o cl K
 | .binOp op t x y _=>match ρ x,ρ y with
  | .agg xs,.agg ys=>eqK P H o ρ op t xs ys K
  | .v (.string s),.v (.string s')=>match s,s' with
   | ⟨⟨a⟩⟩,⟨⟨b⟩⟩=>zlU H op a b K
  | _,_=>match wA P (execOp (fun x=>zcL (ρ x)) o) with
   | some (.value v)=>bK (qU o && o.op.operands.toList.all (fun x=>isV (ρ x)) && v.oneCell') <| okB (.v v) fun c=>K c H
   | _=>False
 | .convert src dst x=>zi2 P H ρ o src dst x K
 | .unOp _ _ _=>match wA P (execOp (fun x=>zcL (ρ x)) o) with
  | some (.value v)=>bK (qU o && o.op.operands.toList.all (fun x=>isV (ρ x)) && v.oneCell') <| zly (.v v) fun c=>K c H
  | _=>False
 | _=>match wA P (execOp (fun x=>zcL (ρ x)) o) with
  | some (.value v)=>bK (qU o && o.op.operands.toList.all (fun x=>isV (ρ x)) && v.oneCell') <| okB (.v v) fun c=>K c H
  | _=>False
section
variable {P:Program} {o:Oper} {ρ:Operand->C} {H:ze} {K:C->ze->Prop}
theorem OpV.zkS {c c':C} {H':ze} (h:OpV P o ρ H c H') (hw:WC c c'):OpV P o ρ H c' H':=fun w E σ hh hl K hk=>h w E σ hh hl K fun v w' E' h1 h2 g=>hk v w' E' h1 (hw E' v h2) g
theorem OpV.ziU (cl:Call) (ho:o.op=.call cl) (x:Operand) (hcl:cl.callee=.value x) {f:FuncId} {first caps:List C} (hf:ρ x=.fn f first caps) (hcb:zA P f=true) {r:C} {H':ze}
  (hs:zb P f H (first++(cl.args.toList.map fun x=>Ab.asL (ρ x))++caps) r H'):OpV P o ρ H r H':=.asL <| .call cl ho x hcl (by rw [hf];rfl) hcb hs
theorem OpV.zlS (t:TypeId) (x y:Operand) (ho:o.op=.store t x y) {H':ze} (hs:j1 P H t (ρ x) (x7 (ρ y))=some H'):OpV P o ρ H .un H':=by
 classical
 have hρ:∀ z,∃ c,(c=ρ z∨c=x7 (ρ z))∧(z=y->c=x7 (ρ z))∧(z≠y->c=ρ z):=fun z=>by
  by_cases e:z=y
  ·exact ⟨x7 (ρ z),.inr rfl,fun _=>rfl,fun h=>absurd e h⟩
  ·exact ⟨ρ z,.inl rfl,fun h=>absurd h e,fun _=>rfl⟩
 obtain ⟨ρ',hρ'⟩:∃ ρ':Operand->C,∀ z,(ρ' z=ρ z∨ρ' z=x7 (ρ z))∧(z=y->ρ' z=x7 (ρ z))∧(z≠y->ρ' z=ρ z):=⟨fun z=>(hρ z).choose,fun z=>(hρ z).choose_spec⟩
 have hx:ρ' x=ρ x:=by
  rcases (hρ' x).1 with e | e
  ·exact e
  ·rw [e]
   unfold j1 at hs
   split at hs
   ·rename_i e2 _;rw [e2];rfl
   ·cases hs
 have h0:zP P o ρ' H .un H':=zP.store t x y ho (by rw [hx,(hρ' y).2.1 rfl];exact hs)
 refine .of0 (h0.weaken fun z E v hl=>?_) (za3 hs)
 rcases (hρ' z).1 with e | e
 ·rw [e];exact hl
 ·rw [e];exact zcm hl
theorem xw (h:match wA P (execOp (fun x=>zcL (ρ x)) o) with
  | some (.value v)=>bK (qU o && o.op.operands.toList.all (fun x=>isV (ρ x)) && v.oneCell') <| okB (.v v) fun c=>K c H
  | _=>False):∃ c,(∀ H2,OpV P o ρ H2 c H2)∧K c H:=by
 split at h
 ·rename_i v e
  obtain ⟨h1,h2⟩:=zx h
  simp only [Bool.and_eq_true,Array.all_toList] at h1
  exact ⟨.v v,fun H2=>.same <| .scalar h1.1.1 h1.1.2 e h1.2,z7 (k:=fun c=>K c H) h2⟩
 ·exact h.elim
theorem za0 {t:TypeId} {x:Operand} {lo hi mx:Option Operand} (ho:o.op=.slice t x lo hi mx) (h:zgU P H ρ t x lo hi mx K):∃ c,(∀ H2,OpV P o ρ H2 c H2)∧K c H:=by
 unfold zgU at h
 split at h
 rotate_left
 ·rename_i hu
  split at h
  ·rename_i s hx
   obtain ⟨⟨b⟩⟩:=s
   dsimp only at h
   split at h
   ·obtain ⟨l,h1,h⟩:=jh h
    obtain ⟨h',h2,h3,h4,h5⟩:=jh h
    exact ⟨_,fun H2=>.same <| .zjX t x lo hi ho hu hx h1 h2 h3 h4,h5⟩
   ·exact h.elim
  ·exact h.elim
 ·exact h.elim
 rename_i e hu
 split at h
 rotate_left
 ·exact h.elim
 rename_i i hi'
 split at h
 ·rename_i fo sz rows hx
  obtain ⟨hsz,h⟩:=h
  split at h
  ·split at h
   ·obtain ⟨l,h1,h3,h5⟩:=jh h
    have:=fun H2=>OpV.same <| zP.zfw (H:=H2) t x lo none ho hu hi' hx hsz h1 (rfl:IsB ρ none rows.length rows.length) h3 (Nat.le_refl _)
    refine ⟨_,this,?_⟩
    rw [List.take_of_length_le (by simp)]
    by_cases hfo:fo=1
    ·simpa [hfo] using h5
    ·simpa [hfo] using h5
   ·rename_i hh
    obtain ⟨l,h1,h⟩:=jh h
    obtain ⟨h',h2,h3,h4,h5⟩:=jh h
    exact ⟨_,fun H2=>.zkS (.same <| .zfw t x lo (some hh) ho hu hi' hx hsz h1 h2 h3 h4) (.share _ _ _),h5⟩
  ·split at h
   ·obtain ⟨l,h1,h⟩:=jh h
    obtain ⟨h',h2,h⟩:=jh h
    obtain ⟨m,h3,rfl,h4,h5,h6⟩:=jh h
    exact ⟨_,fun H2=>.same <| .ziy t x lo _ _ ho hu hi' hx hsz h1 h2 h3 h4 h5,h6⟩
   ·exact h.elim
 ·rename_i id hops sz lo0 len full hx
  split at h
  ·obtain ⟨hsz,h⟩:=h
   obtain ⟨l,h1,h⟩:=jh h
   obtain ⟨h',h2,h3,h4,h5,h6,h7⟩:=jh h
   exact ⟨_,fun H2=>.same <| .zkN t x lo hi ho hu hi' hx hsz h1 h2 h3 h4 h5 h6,h7⟩
  ·exact h.elim
 ·exact h.elim
theorem zaN {t:TypeId} {x y:Operand} (ho:o.op=.indexAddr t x y) (h:zgk P H ρ t x y K):∃ c,(∀ H2,OpV P o ρ H2 c H2)∧K c H:=by
 unfold zgk at h
 split at h
 rotate_left
 ·rename_i len e hu
  split at h
  ·rename_i i hi
   split at h
   ·rename_i k n hy
    split at h
    ·rename_i c hx
     exact ⟨c,fun H2=>.same <| .zjl t x y ho hu hi hy h.1 h.2.1 hx,zu (k:=fun c=>K c H) h.2.2⟩
    ·exact h.elim
   ·exact h.elim
  ·exact h.elim
 ·exact h.elim
 rename_i e hu
 split at h
 rotate_left
 ·exact h.elim
 rename_i i hi
 split at h
 rotate_left
 ·exact h.elim
 rename_i k n hy
 split at h
 ·rename_i fo sz rows hx
  obtain ⟨h1,h3,r,h4,h5⟩:=zx h
  refine ⟨_,fun H2=>.same <| .indexAddr t x y ho hu hi hy h3 (c:=.qv r) ?_,h5⟩
  rw [hx]
  simp only [zaE]
  rw [if_pos h1,h4]
  rfl
 ·rename_i id hops sz lo len full hx
  obtain ⟨h2,h3,h4,h5⟩:=zx h
  simp only [beq_iff_eq] at h2
  refine ⟨_,fun H2=>.same <| .indexAddr t x y ho hu hi hy h3 (c:=.ref id hops sz (lo+n.toNat) 0) ?_,h5⟩
  rw [hx]
  simp only [zaE]
  rw [if_pos (by simp [h4,h2])]
 ·exact h.elim
theorem zaO {t:TypeId} {x y:Operand} (ho:o.op=.index t x y) (h:zgl P H ρ t x y K):∃ c,(∀ H2,OpV P o ρ H2 c H2)∧K c H:=by
 unfold zgl at h
 split at h
 ·rename_i k n hy
  split at h
  ·rename_i hu
   split at h
   ·rename_i s hx
    obtain ⟨⟨b⟩⟩:=s
    obtain ⟨h1,c,h2,h3⟩:=h
    exact ⟨_,fun H2=>.same <| .zjV t x y ho hu hx hy h1 h2,h3⟩
   ·exact h.elim
  ·rename_i len e hu
   split at h
   ·rename_i i hi
    split at h
    ·rename_i cs hx
     obtain ⟨h1,h2,c,h3,h4⟩:=h
     exact ⟨c,fun H2=>.same <| .zgj t x y ho hu hi hx hy h1 h2 h3,zu (k:=fun c=>K c H) (z7 (k:=fun c=>zR c fun c=>K c H) h4)⟩
    ·exact h.elim
   ·exact h.elim
  ·exact h.elim
 ·exact h.elim
theorem zaI {t:TypeId} {x:Operand} {f:Nat} (ho:o.op=.field t x f) (h:zf5 P H ρ t x f K):∃ c,(∀ H2,OpV P o ρ H2 c H2)∧K c H:=by
 unfold zf5 at h
 split at h
 ·rename_i fs hu
  split at h
  ·rename_i fd hf
   split at h
   ·rename_i cs hx
    split at h
    ·rename_i c hc
     exact ⟨c,fun H2=>.same <| .field t x f ho hu hf hx hc,zu (k:=fun c=>K c H) (z7 (k:=fun c=>zR c fun c=>K c H) h)⟩
    ·exact h.elim
   ·exact h.elim
  ·exact h.elim
 ·exact h.elim
theorem zdl {t t':TypeId} {op:BinOp} {x y:Operand} {a b:List UInt8} (ho:o.op=.binOp op t x y t') (hx:ρ x=.v (.string (bs a))) (hy:ρ y=.v (.string (bs b))) (h:zlU H op a b K):∃ c,(∀ H2,OpV P o ρ H2 c H2)∧K c H:=by
 unfold zlU at h
 split at h
 ·exact ⟨_,fun H2=>.same <| .zle .eql t t' x y ho (.inl rfl) hx hy,z7 (k:=fun c=>K c H) h⟩
 ·exact ⟨_,fun H2=>.same <| .zle .neq t t' x y ho (.inr rfl) hx hy,z7 (k:=fun c=>K c H) h⟩
 ·exact ⟨_,fun H2=>.same <| .zlT t t' x y ho hx hy h.1,h.2⟩
 ·exact h.elim
theorem zaH {t:TypeId} {x:Operand} {f:Nat} (ho:o.op=.fieldAddr t x f) (h:zf4 P H ρ t x f K):∃ c,(∀ H2,OpV P o ρ H2 c H2)∧K c H:=by
 unfold zf4 at h
 split at h
 rotate_left
 ·exact h.elim
 rename_i fs hu
 split at h
 rotate_left
 ·exact h.elim
 rename_i fd hf
 split at h
 rotate_left
 ·exact h.elim
 rename_i i hi
 split at h
 rotate_left
 ·exact h.elim
 rename_i c hc
 obtain ⟨h1,h2⟩:=zx h
 exact ⟨c,fun H2=>.same <| .fieldAddr t x f ho hu hf hi (by simpa using h1) hc,zu (k:=fun c=>K c H) h2⟩
theorem kM {cl:Call} (ho:o.op=.call cl) {x y:Operand} {e:TypeId} {i:TypeInfo} {z:Value} (ht:zdr P cl x y e i z) {sz':Nat} {rows':List (List C)} (hy:qW H (asL (ρ y))=some (sz',rows'))
  (h:zbg P H (ρ x) sz' rows' e i K):∃ c H',OpV P o ρ H c H'∧K c H':=by
 unfold zbg at h
 split at h
 ·obtain ⟨h1,h2⟩:=h
  obtain ⟨⟨sz,rows⟩,hx⟩:=Option.isSome_iff_exists.1 h1
  exact ⟨_,H,.asL (ρ:=ρ) (.same <| .zfN cl ho x y ht hx hy),h2⟩
 ·rename_i r' rs'
  replace h:=zx h
  obtain ⟨hz,h⟩:=h
  have hz:=eq_of_beq hz
  subst hz
  have h:=zE h
  have h:=zE h
  split at h
  ·rename_i sz rows hx
   obtain ⟨h1,h2,h3,h4⟩:=h
   exact ⟨_,_,.asL (ρ:=ρ) (.zhv (.zfM cl ho x y ht (by rw [hx];rfl) h1 hy (by simp) (by simpa using h2) (by simpa using h3)) _ (fun e=>by cases e) rfl),by simpa using zZ h4⟩
  ·rename_i id sz n hx
   split at h
   ·rename_i ob hob
    replace h:=zx h
    obtain ⟨hb,h4,h5,h6,h7,h8⟩:=h
    simp only [Bool.and_eq_true,beq_iff_eq] at hb
    obtain ⟨⟨⟨rfl,h1⟩,h2⟩,h3⟩:=hb
    exact ⟨_,_,.asL (ρ:=ρ) (.of0 (.zhK cl ho x y ht (by rw [hx];rfl) hob h1 h2 h3 h4 h5 hy (by simp) (by simpa using h6) (by simpa using h7)) (qj.trans (qj.q4 H id fun ob' h'=>by rw [hob] at h';cases h';rw [h1];decide) (qj.push _ _ (fun e=>by cases e)))),by simpa using zZ h8⟩
   ·exact h.elim
  ·exact h.elim
theorem zdv {cl:Call} (ho:o.op=.call cl) {x y:Operand} {e:TypeId} {i:TypeInfo} {z:Value} (ht:zdr P cl x y e i z) (h:zdu P H ρ x y e i K):∃ c H',OpV P o ρ H c H'∧K c H':=by
 unfold zdu at h
 split at h
 rotate_left
 ·exact h.elim
 rename_i sz' rows' hy
 split at h
 ·rename_i id sz rows hx
  split at h
  ·rename_i ob hob
   replace h:=zx h
   obtain ⟨hz,h⟩:=h
   have hz:=eq_of_beq hz
   subst hz
   have h:=zE h
   obtain ⟨h1,h2,h3,h4,h5⟩:=h
   exact ⟨_,_,.zev cl ho x y ht hx hob h1 hy h2 h3 h4,xQ h5⟩
  ·exact h.elim
 ·rename_i sz rows hx
  rcases h with h | h
  ·unfold zg8 at h
   have h:=zE h
   have h:=zE h
   obtain ⟨h1,h2,h3,h4,h5⟩:=h
   exact ⟨_,_,.zdt cl ho x y ht hx h1 hy h2 h3 h4,zZ h5⟩
  ·exact kM ho ht hy (hx ▸ h)
 ·exact kM ho ht hy h
theorem Array.jj {α:Type} {a:Array α} {l:List α} (h:a.toList=l):a=l.toArray:=by subst h;simp
theorem zfU {cl:Call} (ho:o.op=.call cl) (h:zhb P H ρ o cl K):∃ c H',OpV P o ρ H c H'∧K c H':=by
 have hns:qU o=true:=by simp [qU,ho]
 have scal:∀ (h:match wA P (execOp (fun x=>zcL (ρ x)) o) with
   | some (.value v)=>bK (o.op.operands.toList.all (fun x=>isV (ρ x)) && v.oneCell') <| okB (.v v) fun c=>K c H
   | _=>False),∃ c H',OpV P o ρ H c H'∧K c H':=by
  intro h
  split at h
  ·rename_i v e
   obtain ⟨h1,h2⟩:=zx h
   simp only [Bool.and_eq_true,Array.all_toList] at h1
   exact ⟨.v v,H,.same <| .scalar hns h1.1 e h1.2,z7 (k:=fun c=>K c H) h2⟩
  ·exact h.elim
 unfold zhb at h
 split at h
 ·rename_i x hcl
  split at h
  ·rename_i f first caps hf
   obtain ⟨h1,r,H',h2,h3⟩:=zx h
   exact ⟨r,H',.ziU cl ho x hcl hf h1 h2,z7 (k:=fun c=>K c H') h3⟩
  ·rename_i g first caps hf
   split at h
   ·rename_i l
    obtain ⟨h1,r,H',h2,h3⟩:=zx h
    simp only [Bool.and_eq_true,Array.isEmpty_iff] at h1
    obtain ⟨rfl,rfl⟩:=h1
    exact ⟨r,H',.yield cl ho x hcl hf h2,z7 (k:=fun c=>K c H') h3⟩
   ·exact h.elim
  ·exact h.elim
 ·rename_i x name hcl
  split at h
  ·rename_i t c hx
   obtain ⟨f,hm,hcb,r,H',h2,h3⟩:=h
   exact ⟨r,H',.invoke cl ho x name hcl hx hm hcb h2,z7 (k:=fun c=>K c H') h3⟩
  ·exact h.elim
 ·rename_i hcl
  split at h
  ·rename_i x t hx ht
   split at h
   ·rename_i e hu
    split at h
    ·rename_i n hn
     exact ⟨_,H,.asL (ρ:=ρ) <| .same <| .len cl ho hcl x (Array.jj hx) (Array.jj ht) hu hn,h⟩
    ·exact h.elim
   ·rename_i hu
    split at h
    ·rename_i s hs
     obtain ⟨⟨b⟩⟩:=s
     exact ⟨_,H,.same <| .zjW cl ho hcl x (Array.jj hx) (Array.jj ht) hu hs,h⟩
    ·exact h.elim
   ·exact scal h
  ·exact h.elim
 ·rename_i hcl
  split at h
  ·rename_i x y t t' hx ht
   obtain ⟨ht',h⟩:=zx h
   simp only [beq_iff_eq] at ht'
   subst ht'
   split at h
   ·rename_i e hu
    split at h
    ·rename_i i hi
     split at h
     ·rename_i z hz
      exact zdv ho ⟨hcl,Array.jj hx,⟨_,Array.jj ht,hu⟩,hi,hz,by simpa using (zx h).1⟩ (zx h).2
     ·exact h.elim
    ·exact h.elim
   ·exact h.elim
  ·exact h.elim
 ·exact scal h
theorem zh7 {op:BinOp} {t:TypeId} {x:Operand} (ho:zjw o=some (op,t,x)) (h:zlC P H op t (ρ x) K):qp P o ρ H K:=by
 obtain ⟨t',ho⟩:∃ t',o.op=.binOp op t x (.const (.slice none 0 0)) t':=by
  unfold zjw at ho
  split at ho
  ·rename_i h1
   split at ho
   ·split at ho
    ·cases ho;exact ⟨_,h1⟩
    ·cases ho
   ·cases ho
  ·cases ho
 unfold zlC at h
 split at h
 ·rename_i e hu
  split at h
  ·rename_i fo sz rows hx
   split at h
   ·split at h
    ·exact .zjv .eql t t' x ho (.inl rfl) hu hx h.1 h.2
    ·exact .zjv .neq t t' x ho (.inr rfl) hu hx h.1 h.2
    ·exact h.elim
   ·split at h
    ·exact (kL.zd2 .eql t t' x ho (.inl rfl) hu (.inl ⟨_,_,_,hx,h.1⟩)).toR h.2
    ·exact (kL.zd2 .neq t t' x ho (.inr rfl) hu (.inl ⟨_,_,_,hx,h.1⟩)).toR h.2
    ·exact h.elim
  ·rename_i hx
   split at h
   ·exact (kL.zd2 .eql t t' x ho (.inl rfl) hu (.inr ⟨_,_,_,_,_,_,hx⟩)).toR h
   ·exact (kL.zd2 .neq t t' x ho (.inr rfl) hu (.inr ⟨_,_,_,_,_,_,hx⟩)).toR h
   ·exact h.elim
  ·exact h.elim
 ·exact h.elim
theorem zaP {x:C} {b:Bool} (h:zgm x=some b):∀ E u,L E x u->∃ a,u=.pointer a∧a.isNone=b:=by
 intro E u hl
 unfold zgm at h
 split at h
 ·cases h;cases hl;exact ⟨_,rfl,rfl⟩
 ·cases h;cases hl;exact ⟨_,rfl,rfl⟩
 ·split at h
  ·split at h <;> (cases h;cases hl;exact ⟨_,rfl,rfl⟩)
  ·cases h
 ·cases h
theorem zio {op:BinOp} {t:TypeId} {x:Operand} (ho:zjL o=some (op,t,x)) (h:zlI P H op t (ρ x) K):∃ c,kL P o ρ H c H∧K c H:=by
 obtain ⟨t',ho⟩:∃ t',o.op=.binOp op t x (.const (.pointer none)) t':=by
  unfold zjL at ho
  split at ho
  ·rename_i h1
   split at ho
   ·split at ho
    ·split at ho
     ·cases ho;exact ⟨_,h1⟩
     ·cases ho
    ·cases ho
   ·cases ho
  ·cases ho
 have hT:zkG P t=true->P.underlying t=some (.pointer (P.pointee t)):=fun hp=>by
  unfold zkG at hp
  split at hp
  ·rename_i e hu
   have he:e=P.pointee t:=by simpa using hp
   rw [hu,he]
  ·cases hp
 unfold zlI at h
 split at h
 ·rename_i b hb
  split at h
  ·exact ⟨_,.zjK .eql t t' x ho (.inl rfl) (hT (zx h).1) b (zaP hb),(zx h).2⟩
  ·exact ⟨_,.zjK .neq t t' x ho (.inr rfl) (hT (zx h).1) b (zaP hb),(zx h).2⟩
  ·exact h.elim
 ·exact h.elim
theorem zgq {t:TypeId} {x y:Operand} (ho:o.op=.makeSlice t x y) (h:zjo P H ρ t x y K):∃ c H',OpV P o ρ H c H'∧K c H':=by
 unfold zjo at h
 split at h
 ·rename_i k n k' n' hx hy
  split at h
  ·rename_i e hu
   split at h
   ·rename_i i hi
    split at h
    ·rename_i cs hz
     obtain ⟨h1,rfl,h2,h3,h4,h5⟩:=zx h
     have h5:=zE h5
     have h5:=zE h5
     exact ⟨_,_,.zhv (.makeSlice t x y ho hu hi hz h1 hx hy h2 h3 h4) _ (fun e=>by cases e) rfl,zZ h5⟩
    ·exact h.elim
   ·exact h.elim
  ·exact h.elim
 ·exact h.elim
theorem zbH {src dst:TypeId} {x:Operand} (ho:o.op=.convert src dst x) (h:zi2 P H ρ o src dst x K):∃ c,(∀ H2,OpV P o ρ H2 c H2)∧K c H:=by
 unfold zi2 at h
 split at h
 ·rename_i fo sz rows hx
  split at h
  ·rename_i e hs hd
   split at h
   ·rename_i he
    obtain ⟨h1,bts,rfl,h2⟩:=zx h
    have h1:=eq_of_beq h1
    subst h1
    exact ⟨_,fun H2=>.asL (ρ:=ρ) <| .same <| .zhR src dst x ho hs he hd hx,h2⟩
   ·exact h.elim
  ·exact h.elim
 ·exact xw h
theorem kG (h:y8 P H ρ o K):∃ c H',OpV P o ρ H c H'∧K c H':=by
 unfold y8 at h
 split at h
 ·rename_i x ho
  exact ⟨_,H,.same <| .move x (.inl ho),zu (k:=fun c=>K c H) h⟩
 ·rename_i x ho
  exact ⟨_,H,.same <| .move x (.inr ho),zu (k:=fun c=>K c H) h⟩
 ·rename_i x y z ho
  split at h
  ·rename_i b hb
   exact ⟨_,H,.same <| .pick x y z ho b hb,zu (k:=fun c=>K c H) h⟩
  ·exact h.elim
 ·rename_i t ho
  split at h
  ·rename_i cs hz
   have h:=zZ (k:=fun cs=>z8 cs.length fun n=>z8 H.length fun m=>qD (H++[⟨1,t,n,[cs],0⟩]) fun H'=>K (.ref m [] n 0 0) H') h
   have h:=zE (k:=fun n=>z8 H.length fun m=>qD (H++[⟨1,t,n,[cs],0⟩]) fun H'=>K (.ref m [] n 0 0) H') h
   have h:=zE (k:=fun m=>qD (H++[⟨1,t,cs.length,[cs],0⟩]) fun H'=>K (.ref m [] cs.length 0 0) H') h
   exact ⟨_,_,.zhv (.alloc t ho hz) _ (fun e=>by cases e) rfl,zZ (k:=fun H'=>K (.ref H.length [] cs.length 0 0) H') h⟩
  ·exact h.elim
 ·rename_i t x ho
  obtain ⟨h0,h⟩:=zx h
  have h:=zQ (fun _ _ h=>zu h) (k:=fun cs=>z8 cs.length fun n=>z8 H.length fun m=>qD (H++[⟨1,t,n,[cs],0⟩]) fun H'=>K (.ref m [] n 0 0) H') h
  have h:=zE (k:=fun n=>z8 H.length fun m=>qD (H++[⟨1,t,n,[(ρ x).cells],0⟩]) fun H'=>K (.ref m [] n 0 0) H') h
  have h:=zE (k:=fun m=>qD (H++[⟨1,t,(ρ x).cells.length,[(ρ x).cells],0⟩]) fun H'=>K (.ref m [] (ρ x).cells.length 0 0) H') h
  exact ⟨_,_,.zhv (.box t x ho h0) _ (fun e=>by cases e) rfl,zZ (k:=fun H'=>K (.ref H.length [] (ρ x).cells.length 0 0) H') h⟩
 ·rename_i t x f ho;obtain ⟨c,h1,h2⟩:=zaH ho h;exact ⟨c,H,h1 H,h2⟩
 ·rename_i t x y ho;obtain ⟨c,h1,h2⟩:=zaN (ρ:=fun x=>asL (ρ x)) ho h;exact ⟨c,H,(h1 H).asL,h2⟩
 ·rename_i t x y ho;obtain ⟨c,h1,h2⟩:=zaO ho h;exact ⟨c,H,h1 H,h2⟩
 ·rename_i t x f ho;obtain ⟨c,h1,h2⟩:=zaI ho h;exact ⟨c,H,h1 H,h2⟩
 ·rename_i t x ho
  obtain ⟨c,h1,h2⟩:=yX h
  exact ⟨c,H,.same <| .load t x ho h1,h2⟩
 ·rename_i t x y ho
  split at h
  ·obtain ⟨H',h1,h2⟩:=za4 h
   exact ⟨_,H',.zlS t x y ho h1,h2⟩
  ·obtain ⟨H',h1,h2⟩:=za4 h
   exact ⟨_,H',.of0 (.store t x y ho h1) (za3 h1),h2⟩
 ·rename_i x n ho
  split at h
  ·rename_i vs hx
   split at h
   ·rename_i c hc
    exact ⟨c,H,.same <| .extract x n ho hx hc,zu (k:=fun c=>K c H) (z7 (k:=fun c=>zR c fun c=>K c H) h)⟩
   ·exact h.elim
  ·exact h.elim
 ·rename_i x ho
  exact ⟨_,H,.same <| .nilCheck x ho (zx h).1,zu (k:=fun c=>K c H) (zx h).2⟩
 ·rename_i f first caps ho
  split at h
  ·have h:=zQ (fun _ _ h=>zu h) h
   exact ⟨_,H,.same <| .makeFunc _ first caps ho,zQ (fun _ _ h=>zu h) (k:=fun b=>K (.fn _ (first.toList.map ρ) b) H) h⟩
  ·exact h.elim
 ·rename_i t parts ho
  obtain ⟨cs,hc,h⟩:=zaz h
  exact ⟨_,H,.same <| .build t parts ho hc,h⟩
 ·rename_i t x ho
  split at h
  ·rename_i d hd
   obtain ⟨h1,h2⟩:=zx h
   exact ⟨_,H,.zh4 t x ho hd h1,zu (k:=fun c=>K (.ifc t c) H) h2⟩
  ·exact h.elim
 ·rename_i x xT t ok ho
  replace h:=zx h
  obtain ⟨h1,h⟩:=h
  subst h1
  split at h
  ·rename_i t' c hx
   split at h
   ·rename_i d hd
    split at h
    ·rename_i he
     obtain rfl:t'=t:=by simpa using he
     exact ⟨_,H,.zhM x xT t' ho hx hd (zx h).1,(zx h).2⟩
    ·rename_i he
     split at h
     ·rename_i i hi
      have h2:=(zx h).1
      rw [Bool.and_eq_true] at h2
      exact ⟨_,H,.ziM x xT t ho hx he hd h2.1 hi h2.2,(zx h).2⟩
     ·exact h.elim
   ·exact h.elim
  ·exact h.elim
 ·rename_i t len parts ho
  split at h
  ·rename_i c hc
   split at h
   ·rename_i o' sz rows
    have h:=zQ (fun _ _ h=>zQ (fun _ _ h=>zu h) h) (k:=fun rows=>z8 sz fun sz=>K (.lst o' sz rows) H) h
    exact ⟨_,H,.same <| (zP.buildSlice (ρ:=fun z=>x7 (ρ z)) t len parts ho hc).weaken fun z E v hl=>zcm hl,zE (k:=fun sz=>K (.lst o' sz rows) H) h⟩
   ·exact h.elim
  ·exact h.elim
 ·rename_i t x lo hi mx ho;obtain ⟨c,h1,h2⟩:=za0 (ρ:=fun x=>asL (ρ x)) ho h;exact ⟨c,H,(h1 H).asL,h2⟩
 ·rename_i t x y ho;exact zgq ho h
 ·exact h
 ·exact h
 ·exact h
 ·exact h
 ·rename_i cl ho;exact zfU ho h
 ·rename_i op t x y t' ho
  split at h
  ·rename_i xs ys hx hy
   obtain ⟨h1,h⟩:=h
   simp only [Bool.and_eq_true,Bool.not_eq_true'] at h1
   split at h
   ·rename_i b hb
    split at h
    ·exact ⟨_,H,.same <| .k8 .eql t t' x y ho (.inl rfl) h1.1 h1.2 hx hy hb,z7 (k:=fun c=>K c H) h⟩
    ·exact ⟨_,H,.same <| .k8 .neq t t' x y ho (.inr rfl) h1.1 h1.2 hx hy hb,z7 (k:=fun c=>K c H) h⟩
    ·exact h.elim
   ·exact h.elim
  ·rename_i s s' hx hy
   obtain ⟨⟨a⟩⟩:=s
   obtain ⟨⟨b⟩⟩:=s'
   obtain ⟨c,h1,h2⟩:=zdl ho hx hy h
   exact ⟨c,H,h1 H,h2⟩
  ·obtain ⟨c,h1,h2⟩:=xw h;exact ⟨c,H,h1 H,h2⟩
 ·rename_i src dst x ho;obtain ⟨c,h1,h2⟩:=zbH ho h;exact ⟨c,H,h1 H,h2⟩
 ·split at h
  ·rename_i v e
   obtain ⟨h1,h2⟩:=zx h
   simp only [Bool.and_eq_true,Array.all_toList] at h1
   exact ⟨.v v,H,.same <| .scalar h1.1.1 h1.1.2 e h1.2,zc8 (k:=fun c=>K c H) h2⟩
  ·exact h.elim
 ·obtain ⟨c,h1,h2⟩:=xw h;exact ⟨c,H,h1 H,h2⟩
end
end Go.Ab
namespace Go.Ab
def zcp (calls:Bool) (o:Oper):Bool:=
 match o.op with
 | .alloc _ | .box .. | .store .. | .makeSlice .. | .makeMap .. | .mapUpdate .. | .insert .. | .mapEntry .. | .entryStore ..=>true
 | .call cl=>match cl.callee with
  | .builtin .len=>false
  | .builtin _=>true
  | _=>calls
 | _=>false
def qQ (o:Oper):Bool:=
 match o.op with
 | .move _ | .assign _ | .pick .. | .fieldAddr .. | .indexAddr .. | .extract .. | .nilCheck _ | .makeFunc .. | .build .. | .buildSlice .. | .slice .. | .index .. | .field .. | .binOp .. | .unOp .. | .convert ..=>true
 | .call cl=>match cl.callee with
  | .builtin .len=>true
  | _=>false
 | _=>false
section
variable {P:Program} {o:Oper} {ρ:Operand->C} {H:ze} {K:C->ze->Prop}
theorem za2 (hb:qQ o=true) (h:y8 P H ρ o K):∃ c,(∀ H2,OpV P o ρ H2 c H2)∧K c H:=by
 unfold y8 at h
 split at h
 ·rename_i x ho
  exact ⟨_,fun H2=>.same <| .move x (.inl ho),zu (k:=fun c=>K c H) h⟩
 ·rename_i x ho
  exact ⟨_,fun H2=>.same <| .move x (.inr ho),zu (k:=fun c=>K c H) h⟩
 ·rename_i x y z ho
  split at h
  ·rename_i b hb
   exact ⟨_,fun H2=>.same <| .pick x y z ho b hb,zu (k:=fun c=>K c H) h⟩
  ·exact h.elim
 ·rename_i t ho;simp [qQ,ho] at hb
 ·rename_i t x ho;simp [qQ,ho] at hb
 ·rename_i t x f ho;exact zaH ho h
 ·rename_i t x y ho;obtain ⟨c,h1,h2⟩:=zaN (ρ:=fun x=>asL (ρ x)) ho h;exact ⟨c,fun H2=>(h1 H2).asL,h2⟩
 ·rename_i t x y ho;exact zaO ho h
 ·rename_i t x f ho;exact zaI ho h
 ·rename_i t x ho;simp [qQ,ho] at hb
 ·rename_i t x y ho;simp [qQ,ho] at hb
 ·rename_i x n ho
  split at h
  ·rename_i vs hx
   split at h
   ·rename_i c hc
    exact ⟨c,fun H2=>.same <| .extract x n ho hx hc,zu (k:=fun c=>K c H) (z7 (k:=fun c=>zR c fun c=>K c H) h)⟩
   ·exact h.elim
  ·exact h.elim
 ·rename_i x ho
  exact ⟨_,fun H2=>.same <| .nilCheck x ho (zx h).1,zu (k:=fun c=>K c H) (zx h).2⟩
 ·rename_i f first caps ho
  split at h
  ·have h:=zQ (fun _ _ h=>zu h) h
   exact ⟨_,fun H2=>.same <| .makeFunc _ first caps ho,zQ (fun _ _ h=>zu h) (k:=fun b=>K (.fn _ (first.toList.map ρ) b) H) h⟩
  ·exact h.elim
 ·rename_i t parts ho
  obtain ⟨cs,hc,h⟩:=zaz h
  exact ⟨_,fun H2=>.same <| .build t parts ho hc,h⟩
 ·rename_i t x ho;simp [qQ,ho] at hb
 ·rename_i x xT t ok ho;simp [qQ,ho] at hb
 ·rename_i t len parts ho
  split at h
  ·rename_i c hc
   split at h
   ·rename_i o' sz rows
    have h:=zQ (fun _ _ h=>zQ (fun _ _ h=>zu h) h) (k:=fun rows=>z8 sz fun sz=>K (.lst o' sz rows) H) h
    exact ⟨_,fun H2=>.same <| (zP.buildSlice (ρ:=fun z=>x7 (ρ z)) t len parts ho hc).weaken fun z E v hl=>zcm hl,zE (k:=fun sz=>K (.lst o' sz rows) H) h⟩
   ·exact h.elim
  ·exact h.elim
 ·rename_i t x lo hi mx ho;obtain ⟨c,h1,h2⟩:=za0 (ρ:=fun x=>asL (ρ x)) ho h;exact ⟨c,fun H2=>(h1 H2).asL,h2⟩
 ·rename_i t x y ho;simp [qQ,ho] at hb
 ·rename_i ho;simp [qQ,ho] at hb
 ·rename_i ho;simp [qQ,ho] at hb
 ·rename_i ho;simp [qQ,ho] at hb
 ·rename_i ho;simp [qQ,ho] at hb
 ·rename_i cl ho
  have hc:cl.callee=.builtin .len:=by
   simp only [qQ,ho] at hb
   split at hb
   ·assumption
   ·cases hb
  have hns:qU o=true:=by simp [qU,ho]
  unfold zhb at h
  rw [hc] at h
  dsimp only at h
  split at h
  ·rename_i x t hx ht
   split at h
   ·rename_i e hu
    split at h
    ·rename_i n hn
     exact ⟨_,fun H2=>.asL (ρ:=ρ) <| .same <| .len cl ho hc x (Array.jj hx) (Array.jj ht) hu hn,h⟩
    ·exact h.elim
   ·rename_i hu
    split at h
    ·rename_i s hs
     obtain ⟨⟨b⟩⟩:=s
     exact ⟨_,fun H2=>.same <| .zjW cl ho hc x (Array.jj hx) (Array.jj ht) hu hs,h⟩
    ·exact h.elim
   ·split at h
    ·rename_i v e
     obtain ⟨h1,h2⟩:=zx h
     simp only [Bool.and_eq_true,Array.all_toList] at h1
     exact ⟨.v v,fun H2=>.same <| .scalar hns h1.1 e h1.2,z7 (k:=fun c=>K c H) h2⟩
    ·exact h.elim
  ·exact h.elim
 ·rename_i op t x y t' ho
  split at h
  ·rename_i xs ys hx hy
   obtain ⟨h1,h⟩:=h
   simp only [Bool.and_eq_true,Bool.not_eq_true'] at h1
   split at h
   ·rename_i b hb
    split at h
    ·exact ⟨_,fun H2=>.same <| .k8 .eql t t' x y ho (.inl rfl) h1.1 h1.2 hx hy hb,z7 (k:=fun c=>K c H) h⟩
    ·exact ⟨_,fun H2=>.same <| .k8 .neq t t' x y ho (.inr rfl) h1.1 h1.2 hx hy hb,z7 (k:=fun c=>K c H) h⟩
    ·exact h.elim
   ·exact h.elim
  ·rename_i s s' hx hy
   obtain ⟨⟨a⟩⟩:=s
   obtain ⟨⟨b⟩⟩:=s'
   exact zdl ho hx hy h
  ·exact xw h
 ·rename_i src dst x ho;exact zbH ho h
 ·split at h
  ·rename_i v e
   obtain ⟨h1,h2⟩:=zx h
   simp only [Bool.and_eq_true,Array.all_toList] at h1
   exact ⟨.v v,fun H2=>.same <| .scalar h1.1.1 h1.1.2 e h1.2,zc8 (k:=fun c=>K c H) h2⟩
  ·exact h.elim
 ·exact xw h
end
section
variable {P:Program} {B:Nat} {ops:Array Oper} {md:Region.Mode} {Hs:Nat->ze} {eff:Nat->Bool} {idx:Nat->Nat} {inR:Nat->Nat->Bool}
def vz (md:Region.Mode) (ms:List Nat) (o:Oper):List Nat:=
 ms++[o.after.toList.foldl (fun m e=>if Region.binds md e then m ||| (1 <<< e.on) ||| (ms[e.on]?).getD 0 else m) 0]
def yJ (md:Region.Mode) (ops:Array Oper):List Nat:=ops.toList.foldl (vz md) []
def za9 (md:Region.Mode) (ops:Array Oper) (ms:List Nat) (j i:Nat):Bool:=Nat.testBit ((ms[j]?).getD 0) i
theorem zda {md:Region.Mode} {ms:List Nat} {i:Nat}:∀ {l:List Edge} {m0:Nat},Nat.testBit (l.foldl (fun m e=>if Region.binds md e then m ||| (1 <<< e.on) ||| (ms[e.on]?).getD 0 else m) m0) i=true->
  Nat.testBit m0 i=true∨∃ e ∈ l,Region.binds md e=true∧(e.on=i∨Nat.testBit ((ms[e.on]?).getD 0) i=true)
 | [],m0,h=>.inl h
 | e::l,m0,h=>by
  rw [List.foldl_cons] at h
  rcases zda h with h1 | ⟨e',h1,h2⟩
  ·split at h1
   ·rename_i hb
    simp only [Nat.testBit_or,Bool.or_eq_true] at h1
    rcases h1 with (h1 | h1) | h1
    ·exact .inl h1
    ·refine .inr ⟨e,by simp,hb,.inl ?_⟩
     rw [Nat.testBit_shiftLeft] at h1
     simp only [Bool.and_eq_true,decide_eq_true_eq] at h1
     obtain ⟨h2,h3⟩:=h1
     have:=Nat.testBit_one_eq_true_iff_self_eq_zero.1 h3
     omega
    ·exact .inr ⟨e,by simp,hb,.inr h1⟩
   ·exact .inl h1
  ·exact .inr ⟨e',by simp [h1],h2⟩
def vh (md:Region.Mode) (l:List Oper) (ms:List Nat):Prop:=ms.length=l.length∧∀ (j i:Nat),Nat.testBit ((ms[j]?).getD 0) i=true->
  ∃ oj,l[j]?= some oj∧∃ e ∈ oj.after,Region.binds md e=true∧(e.on=i∨(e.on < j∧Nat.testBit ((ms[e.on]?).getD 0) i=true))
theorem vh.step {md:Region.Mode} {l:List Oper} {ms:List Nat} (h0:vh md l ms) (o:Oper):vh md (l++[o]) (vz md ms o):=by
 obtain ⟨ih1,ih2⟩:=h0
 refine ⟨by simp [vz,ih1],?_⟩
 intro j i h
 unfold vz at h ⊢
 by_cases hj:j < ms.length
 ·rw [List.getElem?_append_left hj] at h
  obtain ⟨oj,h1,e,h2,h3,h4⟩:=ih2 j i h
  refine ⟨oj,by rw [List.getElem?_append_left (by omega)];exact h1,e,h2,h3,h4.imp id fun ⟨h5,h6⟩=>⟨h5,?_⟩⟩
  rw [List.getElem?_append_left (by omega)]
  exact h6
 ·rw [List.getElem?_append_right (by omega)] at h
  have hj0:j - ms.length=0:=by
   rcases Nat.eq_zero_or_pos (j - ms.length) with h0 | h0
   ·exact h0
   ·rw [List.getElem?_eq_none (by simp;omega)] at h
    simp at h
  rw [hj0] at h
  simp only [List.getElem?_cons_zero,Option.getD_some] at h
  rcases zda h with h1 | ⟨e,h1,h2,h3⟩
  ·simp at h1
  ·refine ⟨o,by rw [List.getElem?_append_right (by omega),<- ih1,hj0];rfl,e,by simpa using h1,h2,h3.imp id fun h4=>?_⟩
   have hlt:e.on < ms.length:=by
    rcases Nat.lt_or_ge e.on ms.length with h5 | h5
    ·exact h5
    ·rw [List.getElem?_eq_none h5] at h4;simp at h4
   exact ⟨by omega,by rw [List.getElem?_append_left hlt];exact h4⟩
theorem vh.fold {md:Region.Mode}:∀ {l pre:List Oper} {ms:List Nat},vh md pre ms->vh md (pre++l) (l.foldl (vz md) ms)
 | [],pre,ms,h=>by simpa using h
 | o::l,pre,ms,h=>by
  have:=(h.step o).fold (l:=l)
  simpa using this
theorem zb0 {md:Region.Mode} (ops:Array Oper):vh md ops.toList (yJ md ops):=by
 have:=vh.fold (md:=md) (l:=ops.toList) (pre:=[]) (ms:=[]) ⟨rfl,by simp⟩
 simpa [yJ] using this
def Down (md:Region.Mode) (ops:Array Oper) (listed:Array Bool):Prop:=∀ j oj,ops[j]?= some oj->listed.getD j false=true->∀ e ∈ oj.after,Region.binds md e=true->listed.getD e.on false=true
theorem Down.start:Down md ops (Array.replicate ops.size false):=fun j oj _ h=>by
 exfalso
 rw [Array.getD_eq_getD_getElem?,Array.getElem?_replicate] at h
 split at h <;> simp at h
theorem Down.dep {listed:Array Bool} (hd:Down md ops listed) (j i:Nat) (hj:listed.getD j false=true) (h:za9 md ops (yJ md ops) j i=true):listed.getD i false=true:=by
 induction j using Nat.strongRecOn with
 | _ j ih=>
  obtain ⟨oj,h1,e,h2,h3,h4⟩:=(zb0 (md:=md) ops).2 j i h
  have h5:=hd j oj (by simpa using h1) hj e h2 h3
  rcases h4 with rfl | ⟨h6,h7⟩
  ·exact h5
  ·exact ih e.on h6 h5 h7
theorem Down.ready {listed:Array Bool} (hd:Down md ops listed) {j i:Nat} (hj:j ∈ Region.ready md ops listed) (h:za9 md ops (yJ md ops) j i=true):listed.getD i false=true:=by
 obtain ⟨_,oj,ho,zD⟩:=mem_ready.1 hj
 obtain ⟨oj',h1,e,h2,h3,h4⟩:=(zb0 (md:=md) ops).2 j i h
 have e1:oj'=oj:=by
  have:ops[j]?= some oj':=by simpa using h1
  rw [ho] at this
  cases this
  rfl
 subst e1
 have h5:=zD e h2 h3
 rcases h4 with rfl | ⟨h6,h7⟩
 ·exact h5
 ·exact hd.dep e.on i h5 h7
theorem Down.step {listed:Array Bool} (hd:Down md ops listed) {i:Nat} (hi:i ∈ Region.ready md ops listed):Down md ops (listed.setIfInBounds i true):=fun j oj ho hj e he hb=>by
 by_cases hji:i=j
 ·subst hji
  obtain ⟨_,oi,ho',zD⟩:=mem_ready.1 hi
  rw [ho] at ho'
  cases ho'
  exact getD_set_true (zD e he hb)
 ·rw [getD_set_ne false hji] at hj
  exact getD_set_true (hd j oj ho hj e he hb)
def QA (P:Program) (ops:Array Oper) (Hs:Nat->ze) (r:Nat->Bool) (o:Oper) (c:C) (t:List C):Prop:=
 (qk ops t o=some true∧∀ k,r k=true->OpV P o (ev t) (Hs k) c (Hs k))∨(qk ops t o=some false∧c=.un)
def EA (P:Program) (ops:Array Oper) (H H':ze) (o:Oper) (c:C) (t:List C):Prop:=
 (qk ops t o=some true∧OpV P o (ev t) H c H')∨(qk ops t o=some false∧c=.un∧H'=H)
theorem QA.put {r:Nat->Bool} {o:Oper} {c x:C} {t:List C} {dst:Option Tmp} (h:∀ d,dst=some d->d ∉ o.looksAt ops):QA P ops Hs r o c (put t dst x)↔QA P ops Hs r o c t:=by
 unfold QA
 rw [jR h]
 constructor
 ·rintro (⟨h1,h2⟩ | h1)
  ·exact .inl ⟨h1,fun k hk=>(OpV.put h).1 (h2 k hk)⟩
  ·exact .inr h1
 ·rintro (⟨h1,h2⟩ | h1)
  ·exact .inl ⟨h1,fun k hk=>(OpV.put h).2 (h2 k hk)⟩
  ·exact .inr h1
theorem EA.put {H H':ze} {o:Oper} {c x:C} {t:List C} {dst:Option Tmp} (h:∀ d,dst=some d->d ∉ o.looksAt ops):EA P ops H H' o c (put t dst x)↔EA P ops H H' o c t:=by
 unfold EA
 rw [jR h,OpV.put h]
def zj7 (P:Program) (ops:Array Oper) (Hs:Nat->ze) (eff:Nat->Bool) (idx:Nat->Nat) (inR:Nat->Nat->Bool) (i:Nat) (o:Oper) (c:C) (n':Nat) (t:List C) (n:Nat):Prop:=
 (eff i=false∧inR i n=true∧QA P ops Hs (inR i) o c t∧n'=n)∨(eff i=true∧idx i=n∧EA P ops (Hs n) (Hs (n+1)) o c t∧n'=n+1)
def kn (P:Program) (ops:Array Oper) (Hs:Nat->ze) (eff:Nat->Bool) (idx:Nat->Nat) (inR:Nat->Nat->Bool) (i:Nat) (K:List C->Nat->Prop) (t:List C) (n:Nat):Prop:=
 match ops[i]? with
 | none=>K t n
 | some o=>∃ c n',zj7 P ops Hs eff idx inR i o c n' t n∧K (put t o.dst c) n'
theorem zhA {i:Nat} {t:List C} {n:Nat} {K K':List C->Nat->Prop} (h:∀ t n,K t n->K' t n) (hh:kn P ops Hs eff idx inR i K t n):kn P ops Hs eff idx inR i K' t n:=by
 unfold kn at *
 split
 ·exact h _ _ (by simpa [*] using hh)
 ·rename_i o ho
  simp only [ho] at hh
  obtain ⟨c,n',h1,h2⟩:=hh
  exact ⟨c,n',h1,h _ _ h2⟩
def wN (P:Program) (ops:Array Oper) (Hs:Nat->ze) (eff:Nat->Bool) (idx:Nat->Nat) (inR:Nat->Nat->Bool) (Q:List C->Nat->Prop):List Oper->Nat->List C->Nat->Prop
 | [],_,t,n=>Q t n
 | _::l,k,t,n=>kn P ops Hs eff idx inR k (wN P ops Hs eff idx inR Q l (k+1)) t n
def ziJ (P:Program) (md:Region.Mode) (ops:Array Oper) (Hs:Nat->ze) (eff:Nat->Bool) (idx:Nat->Nat) (inR:Nat->Nat->Bool) (Q:List C->Nat->Prop):Nat->Array Bool->List C->Nat->Prop
 | 0,listed,t,n=>Region.ready md ops listed=[]∧Q t n
 | fuel+1,listed,t,n=>(Region.ready md ops listed=[]->Q t n)∧∀ i ∈ Region.ready md ops listed,kn P ops Hs eff idx inR i (ziJ P md ops Hs eff idx inR Q fuel (listed.setIfInBounds i true)) t n
theorem jn {q:Option Nat} {m:Nat} {H0:ze} {Q:List C->Nat->Prop} {w0:World} {E0:Env} {Q':Exit->Act->World->Prop} (hQ:∀ t n w E a,Q t n->qY B m w E ⟨t,Hs n⟩ a->qi B w0 E0 H0 w E (Hs n)->Q' .normal a w):
  ∀ (fuel:Nat) (listed:Array Bool) (t:List C) (n:Nat) (w:World) (E:Env) (a:Act),qY B m w E ⟨t,Hs n⟩ a->qi B w0 E0 H0 w E (Hs n)->ziJ P md ops Hs eff idx inR Q fuel listed t n->wpAnyIn (fw q) 0 P md ops Q' fuel listed a w
 | 0,_,t,n,w,E,a,hs,hg,h=>⟨h.1,hQ t n w E a h.2 hs hg⟩
 | fuel+1,listed,t,n,w,E,a,hs,hg,h=>⟨fun h0=>hQ t n w E a (h.1 h0) hs hg,fun i hi=>by
   have h1:=h.2 i hi
   unfold kn at h1
   unfold wpOpIn
   split
   ·rename_i ho
    simp only [ho] at h1
    exact jn hQ fuel _ t n w E a hs hg h1
   ·rename_i o ho
    simp only [ho] at h1
    obtain ⟨c,n',hf,hK⟩:=h1
    rcases hf with ⟨_,hin,⟨hw,hv⟩ | ⟨hw,rfl⟩,rfl⟩ | ⟨_,_,⟨hw,hv⟩ | ⟨hw,rfl,he⟩,rfl⟩
    ·rw [if_pos (qq hs.tmps hw)]
     exact kc.zd4 (s:=⟨t,Hs n'⟩) (hv _ hin) q m w E a _ Q' hs fun w' E' a' h2 g2=>jn hQ fuel _ (put t o.dst c) n' w' E' a' h2 (hg.trans g2) hK
    ·rw [if_neg (by rw [qq hs.tmps hw];decide)]
     exact ⟨fun _ _=>trivial,jn hQ fuel _ (put t o.dst .un) n' w E _ (hs.put .un o.dst) hg hK⟩
    ·rw [if_pos (qq hs.tmps hw)]
     exact kc.zd4 (s:=⟨t,Hs n⟩) hv q m w E a _ Q' hs fun w' E' a' h2 g2=>jn hQ fuel _ (put t o.dst c) (n+1) w' E' a' h2 (hg.trans g2) hK
    ·rw [if_neg (by rw [qq hs.tmps hw];decide)]
     have hs':=hs.put .un o.dst
     exact ⟨fun _ _=>trivial,jn hQ fuel _ (put t o.dst .un) (n+1) w E _ (by rw [he];exact hs') (by rw [he];exact hg) hK⟩⟩
structure zhF (md:Region.Mode) (ops:Array Oper) (eff:Nat->Bool) (idx:Nat->Nat) (inR:Nat->Nat->Bool) (i j:Nat):Prop where
 c1:eff i=false->eff j=true->za9 md ops (yJ md ops) j i=false->inR i (idx j)=true->inR i (idx j+1)=true
 c2:eff i=true->eff j=false->za9 md ops (yJ md ops) j i=false->inR j (idx i+1)=true->inR j (idx i)=true
theorem zhB {i j:Nat} {oi oj:Oper} {c:C} {n ni:Nat} (hj:ops[j]?= some oj) (hap:oi.apart ops oj=true) (he:eff i=true->eff j=false) (hp:zhF md ops eff idx inR i j) (hno:za9 md ops (yJ md ops) j i=false) {K:List C->Nat->Prop} {t:List C}
  (hf:zj7 P ops Hs eff idx inR i oi c ni t n) (h:kn P ops Hs eff idx inR j K (put t oi.dst c) ni):
  kn P ops Hs eff idx inR j (fun t' n'=>∃ n2,zj7 P ops Hs eff idx inR i oi c n2 t' n'∧K (put t' oi.dst c) n2) t n:=by
 obtain ⟨h1,h2,h3⟩:=Oper.apart_spec hap
 unfold kn at *
 simp only [hj] at *
 obtain ⟨cj,nj,hfj,hK⟩:=h
 rw [put_comm _ _ h2] at hK
 rcases hf with ⟨e1,e2,e3,rfl⟩ | ⟨e1,e2,e3,rfl⟩
 ·rcases hfj with ⟨f1,f2,f3,rfl⟩ | ⟨f1,f2,f3,rfl⟩
  ·exact ⟨cj,nj,.inl ⟨f1,f2,(QA.put h1).1 f3,rfl⟩,nj,.inl ⟨e1,e2,(QA.put h3).2 e3,rfl⟩,hK⟩
  ·refine ⟨cj,ni+1,.inr ⟨f1,f2,(EA.put h1).1 f3,rfl⟩,ni+1,.inl ⟨e1,?_,(QA.put h3).2 e3,rfl⟩,hK⟩
   rw [<- f2]
   exact hp.c1 e1 f1 hno (by rw [f2];exact e2)
 ·rcases hfj with ⟨f1,f2,f3,rfl⟩ | ⟨f1,f2,f3,rfl⟩
  ·refine ⟨cj,n,.inl ⟨f1,?_,(QA.put h1).1 f3,rfl⟩,n+1,.inr ⟨e1,e2,(EA.put h3).2 e3,rfl⟩,hK⟩
   rw [<- e2]
   exact hp.c2 e1 f1 hno (by rw [e2];exact f2)
  ·rw [he e1] at f1;cases f1
theorem zfI {Q:List C->Nat->Prop} {i:Nat} {oi:Oper} {c:C} (hi:ops[i]?= some oi):
  ∀ (fuel:Nat) (listed:Array Bool) (t:List C) (n ni:Nat),Down md ops listed->
   (∀ j oj,ops[j]?= some oj->j≠i->listed.getD j true=false->(∀ e ∈ oj.after,Region.binds md e=true->e.on≠i)->oi.apart ops oj=true∧(eff i=true->eff j=false)∧zhF md ops eff idx inR i j)->
   i ∈ Region.ready md ops listed->zj7 P ops Hs eff idx inR i oi c ni t n->
   ziJ P md ops Hs eff idx inR Q fuel (listed.setIfInBounds i true) (put t oi.dst c) ni->ziJ P md ops Hs eff idx inR Q (fuel+1) listed t n:=by
 intro fuel
 induction fuel with
 | zero=>
  intro listed t n ni _ _ hr hy H
  refine ⟨fun h=>(by rw [h] at hr;cases hr),fun j hj=>?_⟩
  by_cases hji:j=i
  ·subst hji;unfold kn;simp only [hi];exact ⟨c,ni,hy,H⟩
  ·have:=ready_mono hj hji
   rw [H.1] at this
   cases this
 | succ fuel ih=>
  intro listed t n ni hdown hfree hr hy H
  refine ⟨fun h=>(by rw [h] at hr;cases hr),fun j hj=>?_⟩
  by_cases hji:j=i
  ·subst hji;unfold kn;simp only [hi];exact ⟨c,ni,hy,H⟩
  ·have h1:=H.2 j (ready_mono hj hji)
   obtain ⟨hjun,oj,hoj,zD⟩:=mem_ready.1 hj
   have hiun:listed.getD i false=false:=by
    have h0:=(mem_ready.1 hr).1
    rcases Nat.lt_or_ge i listed.size with h' | h'
    ·simp [h'] at h0 ⊢;exact h0
    ·simp [Array.getElem?_eq_none h']
   have hnot:∀ e ∈ oj.after,Region.binds md e=true->e.on≠i:=fun e he hb heq=>by
    have h1:=zD e he hb
    rw [heq,hiun] at h1
    cases h1
   have hno:za9 md ops (yJ md ops) j i=false:=by
    cases hd:za9 md ops (yJ md ops) j i with
    | false=>rfl
    | true=>have:=hdown.ready hj hd;rw [hiun] at this;cases this
   obtain ⟨hap,hee,hp⟩:=hfree j oj hoj hji hjun hnot
   have h2:=zhB hoj hap hee hp hno hy h1
   have hfree':∀ k ok,ops[k]?= some ok->k≠i->(listed.setIfInBounds j true).getD k true=false->
     (∀ e ∈ ok.after,Region.binds md e=true->e.on≠i)->oi.apart ops ok=true∧(eff i=true->eff k=false)∧zhF md ops eff idx inR i k:=fun k ok hk hki hun hno=>by
    refine hfree k ok hk hki ?_ hno
    by_cases hjk:j=k
    ·subst hjk;exact hjun
    ·rw [getD_set_ne true hjk] at hun;exact hun
   refine zhA (fun t' n' ⟨n2,h3,h4⟩=>ih (listed.setIfInBounds j true) t' n' n2 (hdown.step hj) hfree' (ready_mono hr (Ne.symm hji)) h3 ?_) h2
   rw [Array.setIfInBounds_comm _ _ hji]
   exact h4
theorem zet {Q:List C->Nat->Prop} (hE:zeQ md ops eff=true) (hP:∀ i j,zhF md ops eff idx inR i j):∀ (l:List Oper) (k:Nat) (listed:Array Bool) (t:List C) (n:Nat),Down md ops listed->(∀ j,l[j]?= ops[k+j]?)->(∀ j,j < k->listed.getD j true=true)->
  Region.lexFrom md ops l.length k listed=true->wN P ops Hs eff idx inR Q l k t n->ziJ P md ops Hs eff idx inR Q l.length listed t n
 | [],_,_,_,_,_,_,_,hB,h=>⟨by simpa [Region.lexFrom] using hB,h⟩
 | o::l,k,listed,t,n,hd,hl,hk,hB,h=>by
  have h0:ops[k]?= some o:=by simpa using (hl 0).symm
  simp only [List.length_cons,Region.lexFrom,Bool.and_eq_true] at hB
  obtain ⟨⟨hr,hf⟩,hB'⟩:=hB
  have h':kn P ops Hs eff idx inR k (wN P ops Hs eff idx inR Q l (k+1)) t n:=h
  unfold kn at h'
  simp only [h0] at h'
  obtain ⟨c,n',hfst,hK⟩:=h'
  have hr':k ∈ Region.ready md ops listed:=by simpa using hr
  refine zfI h0 l.length listed t n n' hd (fun j oj hj hne hun hno=>⟨Region.free_spec h0 hf j oj hj hne hun hno,fun he=>?_,hP k j⟩) hr' hfst
   (zet hE hP l (k+1) _ _ _ (hd.step hr') (fun j=>by have:=hl (j+1);simpa [Nat.add_assoc,Nat.add_comm 1 j] using this) ?_ hB' hK)
  ·refine zcX hE he ?_ hj hno
   rcases Nat.lt_trichotomy j k with hlt | heq | hlt
   ·rw [hk j hlt] at hun;cases hun
   ·exact absurd heq hne
   ·exact hlt
  ·intro j hj
   by_cases hjk:k=j
   ·subst hjk
    by_cases hlt:k < listed.size
    ·simp [hlt]
    ·simp [hlt]
   ·rw [getD_set_ne true hjk];exact hk j (by omega)
theorem Run.zmf {id n':Nat} {t t':List C} {H:ze} (hm:P.follows .mixedOrders=true) (hB:Region.lexB .any ops=true) (hE:zeQ .any ops eff=true) (hP:∀ i j,zhF .any ops eff idx inR i j) (hH:Hs 0=H)
  (h:wN P ops Hs eff idx inR (fun t n=>t=t'∧n=n') ops.toList 0 t 0):Run P B (.region id ops true) ⟨t,H⟩ .normal ⟨t',Hs n'⟩:=fun q m w E a Q _ hs hq=>by
 simp only [Region.lexB,Bool.and_eq_true] at hB
 subst hH
 refine wpIn_region_any hm (jn (Hs:=Hs) (eff:=eff) (idx:=idx) (inR:=inR) (H0:=Hs 0) (Q:=fun t n=>t=t'∧n=n') (w0:=w) (E0:=E) (fun t1 n1 w1 E1 a1 he h1 g1=>by obtain ⟨rfl,rfl⟩:=he;exact hq _ _ w1 E1 a1 ⟨rfl,rfl⟩ h1 g1) _ _ t 0 _ E a hs.drew ((Grow.drew w E (Hs 0)).toB (by rw [hs.heap.n];exact hs.base)) ?_)
 have:=zet (Hs:=Hs) (eff:=eff) (idx:=idx) (inR:=inR) (Q:=fun t n=>t=t'∧n=n') (P:=P) (md:=.any) hE hP ops.toList 0 (Array.replicate ops.size false) t 0 Down.start (by simp) (fun j hj=>absurd hj (Nat.not_lt_zero j)) (by simpa using hB.2) h
 simpa using this
structure vc where
 calls:Bool
 bl:List Nat
 keep:List Nat:=[]
 calm:List Nat:=[]
def zb1:List Nat->Nat->Bool
 | [],_=>false
 | x::xs,k=>match Nat.beq x k with | true=>true | false=>zb1 xs k
def vc.blind (T:vc) (k:Nat):Bool:=zb1 T.bl k
def vc.kR (T:vc) (k:Nat):Bool:=match T.calls with | true=>!zb1 T.calm k | false=>false
def yf (T:vc) (ops:Array Oper) (i:Nat):Bool:=match ops[i]? with | some o=>zcp (T.kR i) o && !T.blind i | none=>false
def jq (T:vc) (ops:Array Oper) (i:Nat):Nat:=((List.range i).filter (yf T ops)).length
def inS (T:vc) (ops:Array Oper) (i k:Nat):Bool:=match ops[i]? with | some o=>(qQ o || T.blind i) || k == jq T ops i | none=>true
def zgY (md:Region.Mode) (T:vc) (ops:Array Oper) (ms:List Nat):Bool:=
 zeQ md ops (yf T ops) && (List.range ops.size).all fun i=>(List.range ops.size).all fun j=>
  (!(yf T ops j) || yf T ops i || inS T ops i (jq T ops j+1) || !(inS T ops i (jq T ops j)) || za9 md ops ms j i) &&
  (!(yf T ops i) || yf T ops j || inS T ops j (jq T ops i) || !(inS T ops j (jq T ops i+1)) || za9 md ops ms j i)
def zdm (md:Region.Mode) (T:vc) (ops:Array Oper):Bool:=zgY md T ops (yJ md ops)
theorem zgZ {T:vc} (h:zdm md T ops=true) (i j:Nat):zhF md ops (yf T ops) (jq T ops) (inS T ops) i j:=by
 simp only [zdm,zgY,Bool.and_eq_true,List.all_eq_true,List.mem_range] at h
 have he:∀ i,yf T ops i=true->i < ops.size:=fun i hi=>by
  unfold yf at hi
  split at hi
  ·rename_i o ho;exact (Array.getElem?_eq_some_iff.1 ho).1
  ·cases hi
 have hin:∀ i k,¬i < ops.size->inS T ops i k=true:=fun i k hi=>by
  unfold inS
  rw [Array.getElem?_eq_none (by omega)]
 constructor
 ·intro h1 h2 h3 h4
  by_cases hi:i < ops.size
  ·have:=(h.2 i hi j (he j h2)).1
   simp only [h1,h2,h3,h4,Bool.not_true,Bool.false_or,Bool.or_false] at this
   exact this
  ·exact hin i _ hi
 ·intro h1 h2 h3 h4
  by_cases hj:j < ops.size
  ·have:=(h.2 i (he i h1) j hj).2
   simp only [h1,h2,h3,h4,Bool.not_true,Bool.false_or,Bool.or_false] at this
   exact this
  ·exact hin j _ hj
def zfa (o:Oper):Bool:=match o.op with | .load ..=>true | _=>false
theorem zcn {o:Oper} {ρ:Operand->C} {H:ze} {K:C->ze->Prop} (hb:zfa o=true) (h:y8 P H ρ o K):∃ c,OpV P o ρ H c H∧K c H:=by
 unfold zfa at hb
 split at hb
 ·rename_i t x ho
  unfold y8 at h
  rw [ho] at h
  dsimp only at h
  obtain ⟨c,h1,h2⟩:=yX h
  exact ⟨c,.same <| .load t x ho h1,h2⟩
 ·cases hb
def xA (keep:List Nat) (H H':ze):Prop:=∀ id,zb1 keep id=true->H'[id]?= H[id]?
theorem xA.refl (keep:List Nat) (H:ze):xA keep H H:=fun _ _=>rfl
theorem xA.trans {keep:List Nat} {H H' H'':ze} (h:xA keep H H') (h':xA keep H' H''):xA keep H H'':=fun id hi=>(h' id hi).trans (h id hi)
def zfr (H H':ze) (k:Prop):List Nat->Prop
 | []=>k
 | id::ids=>H'[id]?= H[id]?∧zfr H H' k ids
theorem yZ {H H':ze} {k:Prop}:∀ {keep:List Nat},zfr H H' k keep->xA keep H H'∧k
 | [],h=>⟨fun id hi=>by simp [zb1] at hi,h⟩
 | x::xs,h=>by
  obtain ⟨h1,h2⟩:=h
  obtain ⟨h3,h4⟩:=yZ h2
  refine ⟨fun id hi=>?_,h4⟩
  unfold zb1 at hi
  split at hi
  ·rename_i e
   obtain rfl:=Nat.eq_of_beq_eq_true e
   exact h1
  ·exact h3 id hi
theorem zhV {H H':ze} {id:Nat} (h:H'[id]?= H[id]?) (hops:List Hop):zy H' id hops=zy H id hops:=by unfold zy;rw [h]
theorem zgp {H H':ze} {t:TypeId} {id:Nat} {hops:List Hop} {sz i k:Nat} (h:H'[id]?= H[id]?):x2 P H' t (.ref id hops sz i k)=x2 P H t (.ref id hops sz i k):=by
 unfold x2 vB
 simp only [zhV h]
def zdx (P:Program) (keep:List Nat) (H:ze) (ρ:Operand->C) (o:Oper) (K:C->ze->Prop):Prop:=
 match o.op with
 | .load t x=>match ρ x with
  | .qv cells=>ze9 P H t (.qv cells) fun c=>K c H
  | .ref id hops sz i k=>bK (zb1 keep id) <| ze9 P H t (.ref id hops sz i k) fun c=>K c H
  | _=>False
 | .call cl=>match cl.callee with
  | .value x=>match ρ x with
   | .fn f first caps=>bK (zA P f) <| ∃ r,(∀ H2,zb P f H2 (first++(cl.args.toList.map fun x=>asL (ρ x))++caps) r H2)∧okB r fun r=>K r H
   | _=>False
  | _=>False
 | .makeSlice t x y=>match ρ x,ρ y with
  | .v (.int _ n),.v (.int _ n')=>match P.underlying t with
   | some (.slice e)=>match P.info? e with
    | some i=>match vb P e with
     | some cs=>bK (cs.all jz) <| n'=n∧0<=n∧(i.bytes:Int) * n<=281474976710656∧n<=9223372036854775807∧z8 i.size fun sz=>K (.lst 0 sz (List.replicate n.toNat cs)) H
     | none=>False
    | none=>False
   | _=>False
  | _,_=>False
 | _=>False
theorem zay {keep:List Nat} {o:Oper} {ρ:Operand->C} {H:ze} {K:C->ze->Prop} (h:zdx P keep H ρ o K):∃ c,(∀ H2,xA keep H H2->OpV P o ρ H2 c H2)∧K c H:=by
 unfold zdx at h
 split at h
 ·rename_i t x ho
  split at h
  ·rename_i cells hx
   obtain ⟨c,h1,h2⟩:=yX h
   refine ⟨c,fun H2 _=>.same <| .load t x ho ?_,h2⟩
   rw [hx,<- h1]
   rfl
  ·rename_i id hops sz i k hx
   obtain ⟨h0,h⟩:=zx h
   obtain ⟨c,h1,h2⟩:=yX h
   refine ⟨c,fun H2 hs=>.same <| .load t x ho ?_,h2⟩
   rw [hx,<- h1]
   exact zgp (hs id h0)
  ·exact h.elim
 ·rename_i cl ho
  split at h
  ·rename_i x hcl
   split at h
   ·rename_i f first caps hf
    obtain ⟨h1,r,h2,h3⟩:=zx h
    exact ⟨r,fun H2 _=>.ziU cl ho x hcl hf h1 (h2 H2),z7 (k:=fun c=>K c H) h3⟩
   ·exact h.elim
  ·exact h.elim
 ·rename_i t x y ho
  split at h
  ·rename_i k n k' n' hx hy
   split at h
   ·rename_i e hu
    split at h
    ·rename_i i hi
     split at h
     ·rename_i cs hz
      obtain ⟨h1,rfl,h2,h3,h4,h5⟩:=zx h
      exact ⟨_,fun H2 _=>.same <| .zgr t x y ho hu hi hz h1 hx hy h2 h3 h4,zE (k:=fun sz=>K (.lst 0 sz (List.replicate n'.toNat cs)) H) h5⟩
     ·exact h.elim
    ·exact h.elim
   ·exact h.elim
  ·exact h.elim
 ·exact h.elim
def zlE (P:Program) (T:vc) (ops:Array Oper) (o:Oper) (next:Nat->List C->ze->(List C->ze->Prop)->Prop) (k:Nat) (t:List C) (H:ze) (K:List C->ze->Prop):Prop:=
 match qk ops t o with
 | some true=>match T.blind k with
  | true=>zdx P T.keep H (ev t) o fun c H'=>wv t o.dst c fun t=>next (k+1) t H K
  | false=>match zcp (T.kR k) o with
   | true=>y8 P H (ev t) o fun c H'=>zfr H H' (wv t o.dst c fun t=>next (k+1) t H' K) T.keep
   | false=>match qQ o || zfa o with
    | true=>y8 P H (ev t) o fun c H'=>wv t o.dst c fun t=>next (k+1) t H' K
    | false=>y8 P H (ev t) o fun c H'=>H'=H∧wv t o.dst c fun t=>next (k+1) t H K
 | some false=>wv t o.dst .un fun t=>next (k+1) t H K
 | none=>False
def wq (P:Program) (T:vc) (ops:Array Oper) (l:List Oper):Nat->List C->ze->(List C->ze->Prop)->Prop:=
 List.rec (motive:=fun _=>Nat->List C->ze->(List C->ze->Prop)->Prop) (fun _ t H K=>K t H) (fun o _ next=>zlE P T ops o next) l
theorem zim (T:vc) (o:Oper) (l:List Oper) (k:Nat) (t:List C) (H:ze) (K:List C->ze->Prop):wq P T ops (o::l) k t H K=zlE P T ops o (wq P T ops l) k t H K:=rfl
theorem zcU (T:vc) (k:Nat):jq T ops (k+1)=jq T ops k+if yf T ops k then 1 else 0:=by
 unfold jq
 rw [List.range_succ,List.filter_append,List.length_append]
 cases h:yf T ops k <;> simp [h]
theorem zb9 {T:vc} {D:ze}:∀ {l:List Oper} {k:Nat} {t:List C} {H:ze} {K:List C->ze->Prop},(∀ j,l[j]?= ops[k+j]?)->xA T.keep H D->wq P T ops l k t H K->
  ∃ (L:List ze) (t':List C),K t' ((H::L).getLast (by simp))∧(∀ X ∈ L,xA T.keep H X)∧∀ past:List ze,past.length=jq T ops k->(∀ X ∈ past,xA T.keep H X)->
   wN P ops (fun i=>((past++H::L)[i]?).getD D) (yf T ops) (jq T ops) (inS T ops) (fun t n=>t=t'∧n=jq T ops k+L.length) l k t (jq T ops k)
 | [],k,t,H,K,hl,hD,h=>⟨[],t,h,by simp,fun past hp _=>⟨rfl,rfl⟩⟩
 | o::l,k,t,H,K,hl,hD,h=>by
  have h0:ops[k]?= some o:=by simpa using (hl 0).symm
  have hl':∀ j,l[j]?= ops[k+1+j]?:=fun j=>by have:=hl (j+1);simpa [Nat.add_assoc,Nat.add_comm 1 j] using this
  have he:yf T ops k=(zcp (T.kR k) o && !T.blind k):=by unfold yf;rw [h0]
  have hin:∀ m,inS T ops k m=((qQ o || T.blind k) || m == jq T ops k):=fun m=>by unfold inS;rw [h0]
  have all:∀ (past L:List ze),(∀ X ∈ past,xA T.keep H X)->(∀ X ∈ L,xA T.keep H X)->∀ m:Nat,xA T.keep H (((past++H::L)[m]?).getD D):=fun past L hp hL m=>by
   cases hx:(past++H::L)[m]? with
   | none=>exact hD
   | some X=>
    have:=List.mem_of_getElem? hx
    rcases List.mem_append.1 this with h1 | h1
    ·exact hp X h1
    ·rcases List.mem_cons.1 h1 with rfl | h1
     ·exact .refl _ _
     ·exact hL X h1
  have quiet:∀ c,yf T ops k=false->(∀ past L,past.length=jq T ops k->(∀ X ∈ past,xA T.keep H X)->(∀ X ∈ L,xA T.keep H X)->QA P ops (fun i=>((past++H::L)[i]?).getD D) (inS T ops k) o c t)->wq P T ops l (k+1) (put t o.dst c) H K->
    ∃ (L:List ze) (t':List C),K t' ((H::L).getLast (by simp))∧(∀ X ∈ L,xA T.keep H X)∧∀ past:List ze,past.length=jq T ops k->(∀ X ∈ past,xA T.keep H X)->
     wN P ops (fun i=>((past++H::L)[i]?).getD D) (yf T ops) (jq T ops) (inS T ops) (fun t n=>t=t'∧n=jq T ops k+L.length) (o::l) k t (jq T ops k):=fun c ht hq hK=>by
   obtain ⟨L,t',h1,hL,h2⟩:=zb9 hl' hD hK
   have hc:jq T ops (k+1)=jq T ops k:=by rw [zcU,ht];rfl
   rw [hc] at h2
   refine ⟨L,t',h1,hL,fun past hp hs=>?_⟩
   unfold wN kn
   rw [h0]
   exact ⟨c,_,.inl ⟨ht,by rw [hin];simp,hq past L hp hs hL,rfl⟩,h2 past hp hs⟩
  have zg1:∀ c H',yf T ops k=true->EA P ops H H' o c t->xA T.keep H H'->wq P T ops l (k+1) (put t o.dst c) H' K->
    ∃ (L:List ze) (t':List C),K t' ((H::L).getLast (by simp))∧(∀ X ∈ L,xA T.keep H X)∧∀ past:List ze,past.length=jq T ops k->(∀ X ∈ past,xA T.keep H X)->
     wN P ops (fun i=>((past++H::L)[i]?).getD D) (yf T ops) (jq T ops) (inS T ops) (fun t n=>t=t'∧n=jq T ops k+L.length) (o::l) k t (jq T ops k):=fun c H' ht hq hsm hK=>by
   have back:xA T.keep H' H:=fun id hi=>(hsm id hi).symm
   obtain ⟨L,t',h1,hL,h2⟩:=zb9 hl' (back.trans hD) hK
   have hc:jq T ops (k+1)=jq T ops k+1:=by rw [zcU,ht];rfl
   rw [hc] at h2
   refine ⟨H'::L,t',by simpa using h1,fun X hX=>?_,fun past hp hs=>?_⟩
   ·rcases List.mem_cons.1 hX with rfl | hX
    ·exact hsm
    ·exact hsm.trans (hL X hX)
   have h3:=h2 (past++[H]) (by simp [hp]) (fun X hX=>by
    rcases List.mem_append.1 hX with h | h
    ·exact back.trans (hs X h)
    ·rw [List.mem_singleton.1 h];exact back)
   unfold wN kn
   rw [h0]
   refine ⟨c,jq T ops k+1,.inr ⟨ht,rfl,?_,rfl⟩,?_⟩
   ·have e1:((past++H::H'::L)[jq T ops k]?).getD D=H:=by rw [<- hp];simp
    have e2:((past++H::H'::L)[jq T ops k+1]?).getD D=H':=by rw [<- hp,List.getElem?_append_right (by omega)];simp
    dsimp only
    rw [e1,e2]
    exact hq
   ·simpa [List.append_assoc,Nat.add_assoc,Nat.add_comm 1] using h3
  have same:∀ (past L:List ze),past.length=jq T ops k->((past++H::L)[jq T ops k]?).getD D=H:=fun past L hp=>by rw [<- hp];simp
  rw [zim] at h
  unfold zlE at h
  split at h
  ·rename_i hw
   cases hbl:T.blind k with
   | true=>
    rw [hbl] at h
    obtain ⟨c,h1,h2⟩:=zay h
    exact quiet c (by rw [he,hbl];simp) (fun past L _ hs hL=>.inl ⟨hw,fun m _=>h1 _ (all past L hs hL m)⟩) (qn (k:=fun t=>wq P T ops l (k+1) t H K) h2)
   | false=>
   rw [hbl] at h
   simp only at h
   have he2:yf T ops k=zcp (T.kR k) o:=by rw [he,hbl];simp
   cases ht:zcp (T.kR k) o with
   | true=>
    rw [ht] at h
    obtain ⟨c,H',h1,h2⟩:=kG h
    obtain ⟨h3,h4⟩:=yZ h2
    exact zg1 c H' (he2.trans ht) (.inl ⟨hw,h1⟩) h3 (qn (k:=fun t=>wq P T ops l (k+1) t H' K) h4)
   | false=>
    rw [ht] at h
    simp only at h
    cases hb:qQ o with
    | true=>
     rw [hb,Bool.true_or] at h
     obtain ⟨c,h1,h2⟩:=za2 hb h
     exact quiet c (he2.trans ht) (fun past L _ _ _=>.inl ⟨hw,fun m _=>h1 _⟩) (qn (k:=fun t=>wq P T ops l (k+1) t H K) h2)
    | false=>
     rw [hb,Bool.false_or] at h
     have only:∀ c,OpV P o (ev t) H c H->∀ past L,past.length=jq T ops k->(∀ X ∈ past,xA T.keep H X)->(∀ X ∈ L,xA T.keep H X)->QA P ops (fun i=>((past++H::L)[i]?).getD D) (inS T ops k) o c t:=fun c h1 past L hp _ _=>.inl ⟨hw,fun m hm=>by
      rw [hin,hb,hbl,Bool.false_or,Bool.false_or,beq_iff_eq] at hm
      subst hm
      dsimp only
      rw [same past L hp]
      exact h1⟩
     cases hlo:zfa o with
     | true=>
      rw [hlo] at h
      obtain ⟨c,h1,h2⟩:=zcn hlo h
      exact quiet c (he2.trans ht) (only c h1) (qn (k:=fun t=>wq P T ops l (k+1) t H K) h2)
     | false=>
      rw [hlo] at h
      obtain ⟨c,H',h1,rfl,h2⟩:=kG h
      exact quiet c (he2.trans ht) (only c h1) (qn (k:=fun t=>wq P T ops l (k+1) t _ K) h2)
  ·rename_i hw
   have hK:=qn (k:=fun t=>wq P T ops l (k+1) t H K) h
   cases ht:yf T ops k with
   | true=>exact zg1 .un H ht (.inr ⟨hw,rfl,rfl⟩) (.refl _ _) hK
   | false=>exact quiet .un ht (fun past L _ _ _=>.inr ⟨hw,rfl⟩) hK
  ·exact h.elim
theorem Run.zmg {id:Nat} {T:vc} {t:List C} {H:ze} {K:List C->ze->Prop} (hm:P.follows .mixedOrders=true) (hB:Region.lexB .any ops=true) (hT:zdm .any T ops=true) (h:wq P T ops ops.toList 0 t H K):
  ∃ s',Run P B (.region id ops true) ⟨t,H⟩ .normal s'∧K s'.tmps s'.H:=by
 obtain ⟨L,t',h1,_,h2⟩:=zb9 (k:=0) (D:=H) (by simp) (.refl _ _) h
 have h3:=h2 [] rfl (by simp)
 have hE:zeQ .any ops (yf T ops)=true:=by simp only [zdm,zgY,Bool.and_eq_true] at hT;exact hT.1
 have:=Run.zmf (B:=B) (id:=id) (Hs:=fun i=>((H::L)[i]?).getD H) (eff:=yf T ops) (idx:=jq T ops) (inR:=inS T ops) (n':=L.length) (t':=t') hm hB hE (fun i j=>zgZ hT i j) rfl (by simpa [jq] using h3)
 refine ⟨_,this,?_⟩
 have e:((H::L)[L.length]?).getD H=(H::L).getLast (by simp):=by
  rw [List.getLast_eq_getElem]
  simp
 dsimp only
 rw [e]
 exact h1
end
def vN:C->Bool
 | .agg cs=>cs.all jz
 | c=>jz c
def jd (H:ze):Bool:=H.all fun ob=>match ob.kind with
 | 1=>ob.rows.all fun r=>r.all zw
 | 4=>ob.fz == 0 || (match ob.rows with | [.rc _::t]=>t.all vN | _=>false)
 | _=>true
end Go.Ab
namespace Go.Ab
theorem yn {H:ze} {id:Nat} {ty:TypeId} {sz fz:Nat} {r r':List C} (hob:H[id]?= some ⟨1,ty,sz,[r],fz⟩) (hno:r.all zw=true) (hno':r'.all zw=true) {id':Nat} {p:List Hop} {x:Nat × List (List C)}
  (h:zy (H.set id ⟨1,ty,sz,[r'],fz⟩) id' p=some x):(id'≠id∧zy H id' p=some x)∨(id'=id∧p=[]∧x=(sz,[r'])∧zy H id []=some (sz,[r])):=by
 obtain ⟨ob,ho,hk,hg⟩:=z6 h
 by_cases hi:id'=id
 ·subst hi
  right
  rw [List.getElem?_set,if_pos rfl,if_pos (List.getElem?_eq_some_iff.1 hob).1] at ho
  cases ho
  obtain ⟨rfl,rfl⟩:=xN (fun i k c hc=>by
   obtain ⟨rfl,hc⟩:=jM.1 hc
   exact List.all_eq_true.1 hno' c (List.mem_of_getElem? hc)) hg
  exact ⟨rfl,rfl,rfl,by unfold zy;rw [hob];simp [zS]⟩
 ·left
  refine ⟨hi,?_⟩
  rw [List.getElem?_set,if_neg (Ne.symm hi)] at ho
  unfold zy
  rw [ho]
  simp only [hk,if_true]
  exact hg
theorem zB.zce {w:World} {E:Env} {H:ze} (h:zB w E H) {id:Nat} {ty:TypeId} {sz fz:Nat} {r r':List C} (hob:H[id]?= some ⟨1,ty,sz,[r],fz⟩) (hlen:r'.length=r.length) (hno:r.all zw=true) (hno':r'.all zw=true)
  (hc:∀ (k:Nat) c c' u,r[k]?= some c->r'[k]?= some c'->L E c u->w.cell? ⟨E.β id [],k,none⟩=some u->L E c' u):zB w E (H.set id ⟨1,ty,sz,[r'],fz⟩) where
 n:=by simpa using h.n
 blk id' ob p sz' rows' hob' hx:=by
  rcases yn hob hno hno' hx with ⟨h1,h2⟩ | ⟨rfl,rfl,h1,h2⟩
  ·rw [List.getElem?_set,if_neg (Ne.symm h1)] at hob'
   exact h.blk id' ob p sz' rows' hob' h2
  ·rw [List.getElem?_set,if_pos rfl,if_pos (List.getElem?_eq_some_iff.1 hob).1] at hob'
   cases hob'
   cases h1
   have hb:=h.blk _ _ _ _ _ hob h2
   refine ⟨hb.len,fun q hq=>?_,?_⟩
   ·rw [List.mem_singleton.1 hq,hlen]
    exact hb.row r (List.mem_singleton.2 rfl)
   ·obtain ⟨cur,e,h3,h4,h5⟩:=hb.blk
    refine ⟨cur,e,h3,h4,?_⟩
    intro i k c' hc'
    obtain ⟨rfl,hc'⟩:=jM.1 hc'
    have hk:k < r.length:=by rw [<- hlen];exact (List.getElem?_eq_some_iff.1 hc').1
    have hk':r[k]?= some r[k]:=by simp [hk]
    obtain ⟨u,hu,ho⟩:=h5 0 k r[k] (jM.2 ⟨rfl,hk'⟩)
    refine ⟨u,hu,?_⟩
    rw [zV.loose (List.all_eq_true.1 hno _ (List.mem_of_getElem? hk'))] at ho
    rw [zV.loose (List.all_eq_true.1 hno' c' (List.mem_of_getElem? hc'))]
    refine ⟨?_,ho.2⟩
    have h6:L E r[k] u:=by simpa [Env.at] using ho.1
    have h7:L E c' u:=hc k _ _ u hk' hc' h6 (by
     unfold World.cell?
     rw [h3]
     simpa using hu)
    simpa [Env.at] using h7
 inj i p j q x y hx hy he:=by
  have key:∀ i p x,zy (H.set id ⟨1,ty,sz,[r'],fz⟩) i p=some x->∃ x',zy H i p=some x':=fun i p x hx=>by
   rcases yn hob hno hno' hx with ⟨h1,h2⟩ | ⟨rfl,rfl,h1,h2⟩
   ·exact ⟨x,h2⟩
   ·exact ⟨_,h2⟩
  obtain ⟨x',hx'⟩:=key i p x hx
  obtain ⟨y',hy'⟩:=key j q y hy
  exact h.inj i p j q x' y' hx' hy' he
 zG:=h.zG
 sep i p x o u hx hu:=by
  rcases yn hob hno hno' hx with ⟨h1,h2⟩ | ⟨rfl,rfl,h1,h2⟩
  ·obtain ⟨e1,ob,e2,e3⟩:=h.sep i p x o u h2 hu
   exact ⟨e1,ob,by rw [List.getElem?_set,if_neg (Ne.symm h1)];exact e2,e3⟩
  ·obtain ⟨e1,ob,e2,e3⟩:=h.sep _ [] _ o u h2 hu
   rw [hob] at e2
   cases e2
   exact ⟨rfl,⟨1,ty,sz,[r'],fz⟩,by rw [List.getElem?_set,if_pos rfl,if_pos (List.getElem?_eq_some_iff.1 hob).1],e3⟩
 ty i ob ho hk:=by
  rw [List.getElem?_set] at ho
  split at ho
  ·split at ho
   ·cases ho;cases hk
   ·cases ho
  ·exact h.ty i ob ho hk
 fz i ob ho:=by
  rw [List.getElem?_set] at ho
  split at ho
  ·split at ho
   ·cases ho;have:=h.fz id _ hob;exact this
   ·cases ho
  ·exact h.fz i ob ho
theorem qj.zmG {H:ze} {id:Nat} {ob ob':Ob} (hob:H[id]?= some ob) (h1:ob.kind≠4) (h2:ob'.kind≠4):qj H (H.set id ob'):=fun i o h4=>by
 rw [List.getElem?_set]
 split
 ·rename_i e
  subst e
  rw [if_pos (List.getElem?_eq_some_iff.1 hob).1,hob]
  constructor
  ·intro e;cases e;exact absurd h4 h2
  ·intro e;cases e;exact absurd h4 h1
 ·exact Iff.rfl
theorem zH.zce {w:World} {E:Env} {H:ze} (h:zH w E H) {id:Nat} {ty:TypeId} {sz fz:Nat} {r r':List C} (hob:H[id]?= some ⟨1,ty,sz,[r],fz⟩) (hlen:r'.length=r.length) (hno:r.all zw=true) (hno':r'.all zw=true)
  (hc:∀ (k:Nat) c c' u,r[k]?= some c->r'[k]?= some c'->L E c u->w.cell? ⟨E.β id [],k,none⟩=some u->L E c' u):zH w E (H.set id ⟨1,ty,sz,[r'],fz⟩)∧Grow w E H w E (H.set id ⟨1,ty,sz,[r'],fz⟩):=by
 have hR:=h.base.zce hob hlen hno hno' hc
 have hG:zL w E H w E (H.set id ⟨1,ty,sz,[r'],fz⟩):=⟨Env.le.refl E,fun _ _ _=>rfl,rfl,rfl,rfl,Nat.le_refl _,fun _ _ _=>rfl,fun _ _ _ h=>.inl h,fun b ⟨i,p,x,hx,he⟩=>by
  rcases yn hob hno hno' hx with ⟨h1,h2⟩ | ⟨rfl,rfl,h1,h2⟩
  ·exact .inr ⟨i,p,x,h2,he⟩
  ·exact .inr ⟨_,[],_,h2,he⟩⟩
 have hk:=qj.zmG (ob':=⟨1,ty,sz,[r'],fz⟩) hob (fun e=>by cases e) (fun e=>by cases e)
 exact ⟨⟨hR,Gro.step h hG hk⟩,hG.up h hk⟩
section
variable {B:Nat} {s:S}
theorem zl.var (id:Nat) {ty:TypeId} {sz fz:Nat} {r r':List C} (hob:s.H[id]?= some ⟨1,ty,sz,[r],fz⟩) (hno:r.all zw=true) (hno':r'.all zw=true) (hw:WCs r r'):zl B s ⟨s.tmps,s.H.set id ⟨1,ty,sz,[r'],fz⟩⟩:=fun m w E a hs=>by
 have hlen:∀ {a b:List C},WCs a b->b.length=a.length:=by
  intro a b h
  induction h with
  | nil=>rfl
  | cons _ _ ih=>simp [ih]
 have hget:∀ {a b:List C},WCs a b->∀ (k:Nat) c c',a[k]?= some c->b[k]?= some c'->WC c c':=by
  intro a b h
  induction h with
  | nil=>intro k c c' h;simp at h
  | cons h1 _ ih=>
   intro k c c' e1 e2
   cases k with
   | zero=>simp at e1 e2;subst e1 e2;exact h1
   | succ k=>exact ih k c c' (by simpa using e1) (by simpa using e2)
 obtain ⟨hR,g⟩:=hs.heap.zce hob (hlen hw) hno hno' fun k c c' u e1 e2 hl _=>hget hw k c c' e1 e2 E u hl
 exact ⟨E,⟨hR,hs.tmps,hs.defers,by simpa using hs.base⟩,g.toB (by rw [hs.heap.n];exact hs.base)⟩
theorem zl.zhk (id k:Nat) (ty':TypeId) (sz':Nat) {ty:TypeId} {sz fz sz0:Nat} {r:List C} {rows:List (List C)} (hob:s.H[id]?= some ⟨1,ty,sz,[r],fz⟩) (hk:r[k]?= some (.lst 1 sz0 rows)) (hz:rows=[]∨sz'=sz0) (hno:r.all zw=true)
  (hno':(r.set k (.gl s.H.length sz' rows)).all zw=true):
  zl B s ⟨s.tmps,s.H.set id ⟨1,ty,sz,[r.set k (.gl s.H.length sz' rows)],fz⟩++[⟨4,ty',sz',rows,0⟩]⟩:=fun m w E a hs=>by
 have hgb:zy s.H id []=some (sz,[r]):=by unfold zy;rw [hob];simp [zS]
 have hb:=hs.heap.base.blk _ _ _ _ _ hob hgb
 obtain ⟨cur,e,h3,h4,h5⟩:=hb.blk
 obtain ⟨u,hu,ho⟩:=h5 0 k _ (jM.2 ⟨rfl,hk⟩)
 rw [zV.loose rfl] at ho
 have hl:L E (.lst 1 sz0 rows) u:=by simpa [Env.at] using ho.1
 obtain ⟨E1,hh1,hl1,g1⟩:=hs.heap.zc6 hl ty' hz
 have hlt:id < s.H.length:=(List.getElem?_eq_some_iff.1 hob).1
 have hob1:(s.H++[⟨4,ty',sz',rows,0⟩])[id]?= some ⟨1,ty,sz,[r],fz⟩:=by rw [List.getElem?_append_left hlt];exact hob
 have hβ:E1.β id []=E.β id []:=g1.le.β id [] (by rw [hs.heap.n];exact hlt)
 have hcu:w.cell? ⟨E1.β id [],k,none⟩=some u:=by
  unfold World.cell?
  rw [hβ,h3]
  simpa using hu
 obtain ⟨hR,g2⟩:=hh1.zce hob1 (r':=r.set k (.gl s.H.length sz' rows)) (by simp) hno hno' fun j c c' v e1 e2 hl' hv=>by
  rw [List.getElem?_set] at e2
  split at e2
  ·rename_i e
   subst e
   rw [hcu] at hv
   cases hv
   split at e2
   ·cases e2;exact hl1
   ·cases e2
  ·rw [e1] at e2
   cases e2
   exact hl'
 rw [List.set_append_left _ _ hlt] at hR g2
 have g:=g1.trans g2
 exact ⟨E1,⟨hR,hs.tmps.mono g.le,hs.defers.grow hs.heap g,by have:=hs.base;simp;omega⟩,g.toB (by rw [hs.heap.n];exact hs.base)⟩
end
end Go.Ab
namespace Go.Ab
theorem wU (w:World) (o:Obj) {k:Nat} (h:k < w.heap.size):(w.alloc o).heap[k]?= w.heap[k]?:=by
 show (w.heap.push o)[k]?= _
 rw [Array.getElem?_push,if_neg (by omega)]
theorem zg4 {P:Program} {g:Operand} {ps:Array Tmp} {assign body:Code} {B m:Nat} {H:ze} {t:List C} {f:FuncId} {caps:List C} {w:World} {E:Env} {a:Act} {Q:Exit->Act->World->Prop}
  (hs:qY B m w E ⟨t,H⟩ a) (hg:ev t g=.fn f [] caps) (hcb:zA P f=true)
  (hit:∀ (l:Nat) (r:Loop),r.state=.ready->r.pending=none->r.params=ps->r.assign=assign->r.body=body->
   ∃ (rr:C) (Hf:ze) (rf:Loop),zb P f (H++[obR l r t]) (.v (.func (.yield l) #[] #[])::caps) rr Hf∧Hf[H.length]?= some (obR l rf t)∧rf.state≠.busy∧rf.tmps=r.tmps∧B<=Hf.length∧
   ∀ w' E' a',qY B m w' E' ⟨t,Hf.set H.length (obR l { rf with state:=.exhausted } t)⟩ a'->qi B w E H w' E' (Hf.set H.length (obR l { rf with state:=.exhausted } t))->
    match rf.pending with | none=>Q .normal a' w' | some c=>c.wpIn (fw none) 0 P Q a' w'):
  (Code.rangeFunc g ps assign body).wpIn (fw none) 0 P Q a w:=by
 have hm:=hs.defers.le
 refine wpIn_rangeFunc ?_
 intro fn _
 obtain ⟨r,hr⟩:∃ r:Loop,r={ state:=.ready,pending:=none,fn,tmps:=a.tmps,params:=ps,assign,body,defers:=w.heap.size }:=⟨_,rfl⟩
 obtain ⟨W1,hW1⟩:∃ W1,W1=(w.alloc (.deferred (some []))).alloc (.loop r):=⟨_,rfl⟩
 have hL1:W1.heap[w.heap.size+1]?= some (.loop r):=by
  rw [hW1];have:=World.alloc_heap_new (w.alloc (.deferred (some []))) (.loop r);rwa [World.size_alloc] at this
 have hK1:W1.heap[w.heap.size]?= some (.deferred (some [])):=by
  rw [hW1];exact (wU _ _ (by simp)).trans (World.alloc_heap_new w _)
 have hsame:∀ k,k < w.heap.size->W1.heap[k]?= w.heap[k]?:=fun k hk=>by
  rw [hW1];exact (wU _ _ (by simp;omega)).trans (wU _ _ hk)
 have hsz:W1.heap.size=w.heap.size+2:=by rw [hW1];simp
 have hv:=zjb hs.tmps g
 rw [hg] at hv
 obtain ⟨zs,hσ,hzs⟩:∃ zs,a.eval g=.func (.func f) #[] zs∧LL E caps zs.toList:=by
  generalize a.eval g=u at *
  cases hv with
  | fn f first caps ys zs h1 h2 h3 h4=>
   have:ys= #[]:=by simpa using h1.symm
   subst this
   exact ⟨zs,rfl,by simpa using h2,fun i c y e1 e2=>h4 i c y e1 (by simpa using e2)⟩
 obtain ⟨E1,hR1,G1⟩:=hs.heap.zky (w:=W1) (l:=w.heap.size+1) (r:=r) (t:=t) hsame (by rw [hW1];rfl) (by rw [hW1];rfl) (by rw [hW1];rfl) (by omega) hL1 (by omega) (by rw [hr];exact hs.tmps)
 obtain ⟨rr,Hf,rf,hS,hHf,hbusy,htm,hB,hQ⟩:=hit (w.heap.size+1) r (by rw [hr]) (by rw [hr]) (by rw [hr]) (by rw [hr]) (by rw [hr])
 have eg:∀ (args:Array Value),(callFunc f args).run P W1=.ok (.enter f args) W1:=by
  intro args
  unfold zA at hcb
  split at hcb
  rotate_left
  ·cases hcb
  rename_i fn hfn
  simp only [Bool.and_eq_true,Bool.not_eq_true'] at hcb
  have hname : fn.name ≠ "runtime.NumGoroutine" := by simpa using hcb.1
  have hbody:fn.body≠none:=by intro hb;simp [hb] at hcb
  simp [callFunc,hfn,hname,hbody]
 refine ⟨w.heap.size+1,[mkD w.heap.size],W1,{ target:=.fn (.func f) zs,args:= #[.func (.yield (w.heap.size+1)) #[] #[]] },W1,f, #[.func (.yield (w.heap.size+1)) #[] #[]]++zs,W1,?_,?_,fun _ _=>trivial,?_,fun h=>(by cases h),?_⟩
 ·rw [hW1,hr];exact run_enterLoop_outer _ _ _ _ _
 ·simp only [resolve,hσ]
  simp [go_sem]
 ·simp [invoke,go_sem,eg]
 ·refine (callsIn_wide (n:=0)).2 ((hS W1 E1 _ hR1 ?_).mono ?_)
  ·have:=(LL.one (.v _ rfl:L E1 (.v (.func (.yield (w.heap.size+1)) #[] #[])) (.func (.yield (w.heap.size+1)) #[] #[]))).append (hzs.mono G1.le)
   simpa using this
  ·rintro e w3 ⟨v,E3,rfl,hR3,_,G3⟩
   obtain ⟨⟨hL3,_⟩,ht3⟩:=hR3.gro.lop H.length _ (.loop rf) t hHf rfl ⟨rfl,rfl⟩
   obtain ⟨hR4,G4⟩:=hR3.zbo (r':={ rf with state:=.exhausted }) hHf rfl
   have hend:=run_endLoop (P:=P) hL3 hbusy
   have G:=(G1.trans G3).trans G4
   have hn:B<=E.n:=by rw [hs.heap.n];exact hs.base
   have hD:(w3.putObj (w.heap.size+1) (.loop { rf with state:=.exhausted })).heap[w.heap.size]?= some (.deferred (some [])):=by
    rw [World.putObj_heap_other (by omega)]
    exact (G3.frame _ (by omega) (hR1.free hK1)).trans hK1
   have h4:qY B m (w3.putObj (w.heap.size+1) (.loop { rf with state:=.exhausted })) E3 ⟨t,Hf.set H.length (obR (w.heap.size+1) { rf with state:=.exhausted } t)⟩ { a with defers:=[mkD w.heap.size]++a.defers }:=by
    refine ⟨hR4,hs.tmps.mono G.le,⟨⟨w.heap.size,rfl,hm,hD,?_⟩,hs.defers.grow hs.heap G⟩,by simpa using hB⟩
    intro hmem
    have key:∀ {ds:List Deferred},Marks m w ds->mkD w.heap.size ∉ ds:=by
     intro ds
     induction ds with
     | nil=>intro _ h;cases h
     | cons d ds ih=>
      rintro ⟨⟨D,h1,_,h3,_⟩,ht⟩ h
      rcases List.mem_cons.1 h with h5 | h5
      ·rw [h1] at h5
       have:w.heap.size=D:=by simpa [mkD] using h5
       have:=(Array.getElem?_eq_some_iff.1 h3).1
       omega
      ·exact ih ht h5
    exact key hs.defers hmem
   have:=hQ _ _ _ h4 (G.toB hn)
   refine ⟨rf.pending,_,hend,?_⟩
   exact this
def zmz:Option Code->Exit->Prop
 | none,.normal=>True
 | some .ret,.ret=>True
 | some (.exit i),.exit j=>i=j
 | _,_=>False
theorem z1.rangeFunc {P:Program} {g:Operand} {ps:Array Tmp} {assign body:Code} {B:Nat} {H:ze} {t:List C} {f:FuncId} {caps:List C} {R:Exit->S->Prop} (hg:ev t g=.fn f [] caps) (hcb:zA P f=true)
  (hit:∀ (l:Nat) (r:Loop),r.state=.ready->r.pending=none->r.params=ps->r.assign=assign->r.body=body->
   ∃ (rr:C) (Hf:ze) (rf:Loop) (ex:Exit) (s':S),zb P f (H++[obR l r t]) (.v (.func (.yield l) #[] #[])::caps) rr Hf∧Hf[H.length]?= some (obR l rf t)∧rf.state≠.busy∧rf.tmps=r.tmps∧B<=Hf.length∧zmz rf.pending ex∧
    zl B ⟨t,Hf.set H.length (obR l { rf with state:=.exhausted } t)⟩ s'∧R ex s'):z1 P B (.rangeFunc g ps assign body) ⟨t,H⟩ R:=fun q m w E a Q hr hs hq=>by
 obtain rfl:=hr rfl
 refine zg4 hs hg hcb fun l r h1 h2 h3 h4 h5=>?_
 obtain ⟨rr,Hf,rf,ex,s',a1,a2,a3,a4,a5,a6,a7,a8⟩:=hit l r h1 h2 h3 h4 h5
 refine ⟨rr,Hf,rf,a1,a2,a3,a4,a5,fun w' E' a' hs' g'=>?_⟩
 obtain ⟨E2,hs2,g2⟩:=a7 m w' E' a' hs'
 have hq':=hq ex s' w' E2 a' a8 hs2 (g'.trans g2)
 generalize rf.pending=pe at a6
 match pe,ex,a6 with
 | none,.normal,_=>exact hq'
 | some .ret,.ret,_=>exact wpIn_ret hq'
 | some (.exit i),.exit j,h=>cases h;exact wpIn_exit hq'
end Go.Ab
namespace Go.Ab
def zfc (o:Oper):Option TypeId:=match o.op with
 | .makeMap t r=>match r with
  | none=>some t
  | some _=>none
 | _=>none
def zkx (P:Program) (t:TypeId):Bool:=match P.underlying t with
 | some (.map _ e)=>match P.underlying e with
  | some (.int _)=>false
  | some .bool=>false
  | some .string=>false
  | _=>true
 | _=>false
noncomputable def hasC (H:ze):Bool:=List.rec (motive:=fun _=>Bool) false (fun ob _ next=>match ob with
 | ⟨kind,_,sz,_,fz⟩=>match kind with
  | 4=>match sz with
   | 2=>match fz with
    | 1=>true
    | _=>next
   | _=>next
  | _=>next) H
noncomputable def mapRel (H:ze) (ρ:Operand->C) (o:Oper):Bool:=match o.op with
 | .range _ _=>true
 | .next _ _=>true
 | .entry _=>true
 | .insert _ _ _ _=>true
 | .mapUpdate _ _ _ _=>hasC H
 | .call cl=>match cl.callee with
  | .builtin b=>match b with
   | .delete=>true
   | .append=>match cl.args.toList with
    | x::_=>match ρ x with
     | .gl _ _ _=>hasC H
     | .lst _ sz _=>match sz with
      | 99=>true
      | _=>false
     | _=>false
    | []=>false
   | _=>false
  | _=>false
 | _=>false
def zm2 (P:Program) (t:TypeId):Bool:=
 match P.underlying t with
 | some (.pointer _)=>true
 | some (.map _ _)=>true
 | some (.tuple es)=>match es.toList with
  | u::_=>match P.underlying u with
   | some (.pointer _)=>true
   | _=>false
  | []=>false
 | _=>false
def zmC (P:Program) (ρ:Operand->C) (o:Oper):Option (FuncId × List C):=
 match o.op with
 | .call cl=>match cl.callee with
  | .value x=>match ρ x with
   | .fn f first caps=>match zA P f with
    | true=>some (f,first++(cl.args.toList.map fun x=>asL (ρ x))++caps)
    | false=>none
   | _=>none
  | _=>none
 | _=>none
def zjO (P:Program) (ρ:Operand->C) (o:Oper):Option (FuncId × List C):=
 match zm2 P o.type with
 | true=>zmC P ρ o
 | false=>none
theorem qp.call {P:Program} {H:ze} {ρ:Operand->C} {o:Oper} {f:FuncId} {args:List C} {R:C->ze->Prop} (h:zjO P ρ o=some (f,args)) (hs:qe P f H args R):qp P o ρ H R:=fun w E σ hh hl _ K hk=>by
 unfold zjO at h
 split at h
 rotate_left
 ·cases h
 unfold zmC at h
 split at h
 rotate_left
 ·cases h
 rename_i cl ho
 split at h
 rotate_left
 ·cases h
 rename_i x hcl
 split at h
 rotate_left
 ·cases h
 rename_i f' first caps hf
 split at h
 rotate_left
 ·cases h
 rename_i hcb
 cases h
 have hl:∀ x ∈ o.op.operands,L E (Ab.asL (ρ x)) (σ x):=fun x hx=>kN (hl x hx)
 have h0:=hl x (by simp [ho,Op.operands,Call.operands,hcl])
 rw [hf] at h0
 have h0:L E (.fn f first caps) (σ x):=h0
 obtain ⟨ys,zs,hv,h1,h2,h3,h4⟩:∃ ys zs,σ x=.func (.func f) ys zs∧first.length=ys.size∧caps.length=zs.size∧(∀ (i:Nat) c y,first[i]?= some c->ys[i]?= some y->L E c y)∧(∀ (i:Nat) c y,caps[i]?= some c->zs[i]?= some y->L E c y):=by
  generalize σ x=u at *
  cases h0 with
  | fn f first caps ys zs h1 h2 h3 h4=>exact ⟨ys,zs,rfl,h1,h2,h3,h4⟩
 unfold zA at hcb
 split at hcb
 rotate_left
 ·cases hcb
 rename_i fn hfn
 simp only [Bool.and_eq_true,Bool.not_eq_true'] at hcb
 have hname : fn.name ≠ "runtime.NumGoroutine" := by simpa using hcb.1
 have hbody:fn.body≠none:=by intro hb;simp [hb] at hcb
 have hr:(execOp σ o).run P w=.ok (.enter f (ys++cl.args.map σ++zs)) w:=by
  unfold execOp
  simp [ho,resolve,hcl,hv,Deferred.ofValue,invoke,callFunc,hfn,hname,hbody]
 rw [hr]
 refine (hs w E (ys++cl.args.map σ++zs) hh ?_).mono ?_
 ·have e1:LL E first ys.toList:=⟨by simpa using h1,fun i c y e1 e2=>h3 i c y e1 (by simpa using e2)⟩
  have e2:LL E caps zs.toList:=⟨by simpa using h2,fun i c y e1 e2=>h4 i c y e1 (by simpa using e2)⟩
  have e3:LL E (cl.args.toList.map fun x=>Ab.asL (ρ x)) (cl.args.map σ).toList:=by
   refine ⟨by simp,?_⟩
   intro i c y hc hy
   rw [List.getElem?_map] at hc
   rw [Array.toList_map,List.getElem?_map] at hy
   cases ha:cl.args.toList[i]? with
   | none=>rw [ha] at hc;cases hc
   | some a=>
    rw [ha] at hc hy
    cases hc
    cases hy
    exact hl a (by simp [ho,Op.operands,Call.operands];right;have:=List.mem_of_getElem? ha;simpa using this)
  have:=(e1.append e3).append e2
  simpa using this
 ·rintro e w' ⟨c,H',v,E',hR,rfl,h5,h6,h7⟩
  exact ⟨v,rfl,hk c H' v w' E' hR h5 h6 h7⟩
def zlu (o:Oper):Option (BinOp × TypeId × Operand):=
 match o.op with
 | .binOp op t x y _=>match y with
  | .const v=>match v with
   | .nilFunc=>some (op,t,x)
   | _=>none
  | _=>none
 | _=>none
def zgn (x:C):Option Bool:=
 match x with
 | .fn ..=>some false
 | .v y=>match y with
  | .nilFunc=>some true
  | _=>none
 | _=>none
theorem zaQ {x:C} {b:Bool} (h:zgn x=some b):∀ E u,L E x u->(b=true∧u=.nilFunc)∨(b=false∧∃ f ys zs,u=.func f ys zs):=by
 intro E u hl
 unfold zgn at h
 split at h
 ·cases h;cases hl;exact .inr ⟨rfl,_,_,_,rfl⟩
 ·split at h
  ·cases h;cases hl;exact .inl ⟨rfl,rfl⟩
  ·cases h
 ·cases h
def fnT (P:Program) (t:TypeId):Bool:=
 match P.underlying t with
 | some (.func ..)=>true
 | _=>false
def fnK (P:Program) (H:ze) (op:BinOp) (t:TypeId) (x:C) (K:C->ze->Prop):Prop:=
 match zgn x with
 | some b=>match op with
  | .eql=>bK (fnT P t) <| K (.v (.bool b)) H
  | .neq=>bK (fnT P t) <| K (.v (.bool (!b))) H
  | _=>False
 | none=>False
theorem zek {P:Program} (w:World) (d:Nat) (t:TypeId) (ht:fnT P t=true) (y:Value) (n:Bool) (hy:(n=true∧y=.nilFunc)∨(n=false∧∃ f xs ys,y=.func f xs ys)):(Op.equalIn (d+1) t y .nilFunc).run P w=.ok n w:=by
 unfold fnT at ht
 split at ht
 rotate_left
 ·cases ht
 rename_i a b c hu
 rcases hy with ⟨rfl,rfl⟩ | ⟨rfl,f,xs,ys,rfl⟩ <;> simp [Op.equalIn,run_underlying hu]
theorem zgP {P:Program} (w:World) (t:TypeId) (ht:fnT P t=true) (y:Value) (n:Bool) (hy:(n=true∧y=.nilFunc)∨(n=false∧∃ f xs ys,y=.func f xs ys)):(Op.equal t y .nilFunc).run P w=.ok n w:=zek w 9999 t ht y n hy
theorem kL.zk3 {P:Program} {o:Oper} {ρ:Operand->C} {H:ze} (op:BinOp) (t t':TypeId) (x:Operand) (ho:o.op=.binOp op t x (.const .nilFunc) t') (hop:op=.eql∨op=.neq) (ht:fnT P t=true) (b:Bool)
  (hx:∀ E u,L E (ρ x) u->(b=true∧u=.nilFunc)∨(b=false∧∃ f ys zs,u=.func f ys zs)):kL P o ρ H (.v (.bool (if op=.eql then b else !b))) H:=fun w E σ hh hl hc K hk=>by
 have hv:=hx E _ (hl x (by simp [ho,Op.operands]))
 have he:=zgP w t ht _ _ hv
 have hr:(execOp σ o).run P w=.ok (.value (.bool (if op=.eql then b else !b))) w:=by
  unfold execOp
  rcases hv with ⟨rfl,hv⟩ | ⟨rfl,f,ys,zs,hv⟩ <;> rw [hv] at he <;> rcases hop with rfl | rfl <;> simp [ho,hv,hc,eqGuard,binOp,he]
 rw [hr]
 exact hk _ w E hh (.v _ rfl) (Grow.refl w E H)
theorem zje {P:Program} {o:Oper} {ρ:Operand->C} {H:ze} {K:C->ze->Prop} {op:BinOp} {t:TypeId} {x:Operand} (ho:zlu o=some (op,t,x)) (h:fnK P H op t (ρ x) K):∃ c,kL P o ρ H c H∧K c H:=by
 obtain ⟨t',ho⟩:∃ t',o.op=.binOp op t x (.const .nilFunc) t':=by
  unfold zlu at ho
  split at ho
  ·rename_i h1
   split at ho
   ·split at ho
    ·cases ho;exact ⟨_,h1⟩
    ·cases ho
   ·cases ho
  ·cases ho
 unfold fnK at h
 split at h
 ·rename_i b hb
  split at h
  ·exact ⟨_,.zk3 .eql t t' x ho (.inl rfl) (zx h).1 b (zaQ hb),(zx h).2⟩
  ·exact ⟨_,.zk3 .neq t t' x ho (.inr rfl) (zx h).1 b (zaQ hb),(zx h).2⟩
  ·exact h.elim
 ·exact h.elim
def opR (P:Program) (H:ze) (ρ:Operand->C) (o:Oper) (K:C->ze->Prop):Prop:=
 match zjw o with
 | some (op,ty,x)=>zlC P H op ty (ρ x) K
 | none=>match zjL o with
  | some (op,ty,x)=>zlI P H op ty (ρ x) K
  | none=>match zlu o with
  | some (op,ty,x)=>fnK P H op ty (ρ x) K
  | none=>match zjO P ρ o with
  | some (f,args)=>∃ R,qe P f H args R∧∀ r H',R r H'->K r H'
  | none=>match mapRel H ρ o with
   | true=>qp P o ρ H K
   | false=>match zfc o with
    | some t=>match zkx P t with
     | true=>∀ b:Nat,qD (H++[obC b [] 0 []]) fun H'=>K (.v (.map (some b))) H'
     | false=>∀ b:Nat,qD (H++[obM b #[] 0]) fun H'=>K (.v (.map (some b))) H'
    | none=>y8 P H ρ o K
theorem zb5 {P:Program} {H:ze} {ρ:Operand->C} {o:Oper} {K:C->ze->Prop} (h:opR P H ρ o K):qp P o ρ H K:=by
 unfold opR at h
 split at h
 ·rename_i op ty x hn
  exact zh7 hn h
 ·split at h
  ·rename_i op ty x hn
   obtain ⟨c,h1,h2⟩:=zio hn h
   exact h1.toR h2
  split at h
  ·rename_i op ty x hn
   obtain ⟨c,h1,h2⟩:=zje hn h
   exact h1.toR h2
  ·split at h
   ·rename_i f args hn
    obtain ⟨R,h1,h2⟩:=h
    exact qp.call hn (fun w E vs hh hl=>(h1 w E vs hh hl).mono fun e w' ⟨r,H',v,E',hR,h3⟩=>⟨r,H',v,E',h2 r H' hR,h3⟩)
   split at h
   ·exact h
   split at h
   ·rename_i t hm
    have ho:o.op=.makeMap t none:=by
     unfold zfc at hm
     split at hm
     ·rename_i ho
      split at hm
      ·cases hm;exact ho
      ·cases hm
     ·cases hm
    split at h
    ·exact .zjp t ho fun b=>zZ (h b)
    ·exact .makeMap t ho fun b=>zZ (h b)
   ·obtain ⟨c,H',h1,h2⟩:=kG h
    exact h1.toR h2
def opK (P:Program) (ops:Array Oper) (o:Oper) (next:List C->ze->(List C->ze->Prop)->Prop) (t:List C) (H:ze) (K:List C->ze->Prop):Prop:=
 match qk ops t o with
 | some true=>opR P H (ev t) o fun c H'=>wv t o.dst c fun t=>next t H' K
 | some false=>wv t o.dst .un fun t=>next t H K
 | none=>False
def zal (P:Program) (ops:Array Oper) (l:List Oper):List C->ze->(List C->ze->Prop)->Prop:=
 List.rec (motive:=fun _=>List C->ze->(List C->ze->Prop)->Prop) (fun t H K=>K t H) (fun o _ next=>opK P ops o next) l
theorem zdd (P:Program) (ops:Array Oper) (o:Oper) (l:List Oper) (t:List C) (H:ze) (K:List C->ze->Prop):zal P ops (o::l) t H K=opK P ops o (zal P ops l) t H K:=rfl
section
variable {P:Program} {B:Nat} {ops:Array Oper}
theorem zam:∀ {l:List Oper} {t:List C} {H:ze} {K:List C->ze->Prop},zal P ops l t H K->xS P B ops l ⟨t,H⟩ fun s'=>K s'.tmps s'.H
 | [],t,H,K,h=>.nil h
 | o::l,t,H,K,h=>by
  rw [zdd] at h
  unfold opK at h
  split at h
  ·rename_i hw
   refine .run (s:=⟨t,H⟩) hw (.zbl (s:=⟨t,H⟩) (zb5 h)) ?_
   rintro s1 ⟨c,H',h1,rfl⟩
   exact zam (qn (k:=fun t=>zal P ops l t H' K) h1)
  ·rename_i hw
   exact .pass (s:=⟨t,H⟩) hw (zam (qn (k:=fun t=>zal P ops l t H K) h))
  ·exact h.elim
abbrev WK:=List C->ze->(Exit->List C->ze->Prop)->Prop
def zm3 (x y:WK):WK:=fun t H K=>x t H fun ex t H=>match ex with
 | .normal=>y t H K
 | ex=>K ex t H
def zlo (id:Nat) (c:WK):WK:=fun t H K=>c t H fun ex t H=>match ex with
 | .exit id'=>if id'=id then K .normal t H else K (.exit id') t H
 | ex=>K ex t H
def zi1 (c:Operand) (x y:WK):WK:=fun t H K=>match ev t c with
 | .v (.bool b)=>match b with
  | true=>x t H K
  | false=>y t H K
 | _=>False
noncomputable def readyB (all:List Bool) (ops:List Oper):List Bool->Nat->List Nat:=
 List.rec (motive:=fun _=>List Bool->Nat->List Nat) (fun _ _=>[]) (fun o _ ih bs k=>match bs with
  | []=>[]
  | b::bs=>match b with
   | true=>ih bs (k+1)
   | false=>match o.after.toList.all (fun e=>!Region.binds .any e || all.getD e.on false) with
    | true=>k::ih bs (k+1)
    | false=>ih bs (k+1)) ops
noncomputable def bothK (f:Nat->Prop) (l:List Nat):Prop:=List.rec (motive:=fun _=>Prop) True (fun i _ ih=>f i∧ih) l
structure Eag where
 bl:List Nat:=[]
 keep:List Nat:=[]
 flat:Bool:=false
def XC (T:Eag) (H0 H:ze):Prop:=xA T.keep H0 H∧(T.flat=true->jd H=true)
noncomputable def pickE (bl:List Nat) (ops:Array Oper) (t:List C) (l:List Nat):Option Nat:=
 List.rec (motive:=fun _=>Option Nat) none (fun i _ ih=>match ops[i]? with
  | some o=>match qQ o || zb1 bl i with
   | true=>some i
   | false=>match qk ops t o with
    | some b=>match b with
     | true=>ih
     | false=>some i
    | none=>ih
  | none=>ih) l
def zfQ (P:Program) (T:Eag) (H:ze) (ρ:Operand->C) (o:Oper) (K:C->ze->Prop):Prop:=
 match o.op with
 | .call cl=>match cl.callee with
  | .value x=>match ρ x with
   | .fn f first caps=>bK (zA P f) <| ∃ r,(∀ H2,XC T H H2->zb P f H2 (first++(cl.args.toList.map fun x=>asL (ρ x))++caps) r H2)∧okB r fun r=>K r H
   | _=>False
  | _=>False
 | _=>zdx P T.keep H ρ o K
def opE (P:Program) (T:Eag) (ops:Array Oper) (o:Oper) (k:Nat) (next:List C->ze->(List C->ze->Prop)->Prop) (t:List C) (H:ze) (K:List C->ze->Prop):Prop:=
 match qk ops t o with
 | some true=>match zb1 T.bl k with
  | true=>zfQ P T H (ev t) o fun c H'=>wv t o.dst c fun t=>next t H' K
  | false=>match qQ o with
   | true=>y8 P H (ev t) o fun c H'=>wv t o.dst c fun t=>next t H' K
   | false=>False
 | some false=>wv t o.dst .un fun t=>next t H K
 | none=>False
def zjU (T:Eag) (H H':ze) (k:Prop):Prop:=match T.flat with
 | true=>jd H'=true∧zfr H H' k T.keep
 | false=>zfr H H' k T.keep
def opS (P:Program) (T:Eag) (ops:Array Oper) (o:Oper) (next:List C->ze->(List C->ze->Prop)->Prop) (t:List C) (H:ze) (K:List C->ze->Prop):Prop:=
 match qk ops t o with
 | some true=>match zfa o with
  | true=>y8 P H (ev t) o fun c H'=>wv t o.dst c fun t=>next t H' K
  | false=>opR P H (ev t) o fun c H'=>zjU T H H' (wv t o.dst c fun t=>next t H' K)
 | some false=>wv t o.dst .un fun t=>next t H K
 | none=>False
noncomputable def bruteK (P:Program) (T:Eag) (ops:Array Oper) (n:Nat):List Bool->List C->ze->(List C->ze->Prop)->Prop:=
 Nat.rec (motive:=fun _=>List Bool->List C->ze->(List C->ze->Prop)->Prop)
  (fun listed t H K=>match readyB listed ops.toList listed 0 with
   | []=>K t H
   | _::_=>False)
  (fun _ ih listed t H K=>match readyB listed ops.toList listed 0 with
   | []=>K t H
   | i::is=>match pickE T.bl ops t (i::is) with
    | some i=>match ops[i]? with
     | some o=>opE P T ops o i (fun t H K=>ih (listed.set i true) t H K) t H K
     | none=>False
    | none=>bothK (fun i=>match ops[i]? with
     | some o=>opS P T ops o (fun t H K=>ih (listed.set i true) t H K) t H K
     | none=>False) (i::is)) n
def ziL (md:Region.Mode) (ops:Array Oper) (ms:List Nat):Bool:=
 (List.range ops.size).all fun i=>(List.range ops.size).all fun j=>Nat.beq j i || za9 md ops ms i j || match ops[i]?,ops[j]? with
  | some oi,some oj=>(oj.after.any fun e=>Region.binds md e && e.on == i) || oi.apart ops oj
  | _,_=>true
def yy (md:Region.Mode) (ops:Array Oper):Bool:=ziL md ops (yJ md ops)
noncomputable def regionK (P:Program) (B:Nat) (ops:Array Oper) (draw:Bool):WK:=fun t H K=>match draw with
 | false=>zal P ops ops.toList t H fun t H=>K .normal t H
 | true=>(∃ T:vc,(P.follows .mixedOrders && Region.lexB .any ops && zdm .any T ops)=true∧wq P T ops ops.toList 0 t H fun t H=>K .normal t H)∨
  ∃ T:Eag,(P.follows .mixedOrders && yy .any ops)=true∧(T.flat=true->jd H=true)∧∃ R:List C->ze->Prop,bruteK P T ops ops.size (ops.toList.map fun _=>false) t H (fun t1 H1=>∃ t2 H2,zl B ⟨t1,H1⟩ ⟨t2,H2⟩∧R t2 H2)∧∀ t2 H2,R t2 H2->K .normal t2 H2
theorem zb2 {all:List Bool}:∀ {os:List Oper} {bs:List Bool} {k i:Nat},i ∈ readyB all os bs k↔∃ j o,i=k+j∧os[j]?= some o∧bs[j]?= some false∧o.after.toList.all (fun e=>!Region.binds .any e || all.getD e.on false)=true
 | [],bs,k,i=>by simp [readyB]
 | o::os,[],k,i=>by
  have e:readyB all (o::os) [] k=[]:=rfl
  rw [e]
  simp
 | o::os,b::bs,k,i=>by
  have e:readyB all (o::os) (b::bs) k=match b with
   | true=>readyB all os bs (k+1)
   | false=>match o.after.toList.all (fun e=>!Region.binds .any e || all.getD e.on false) with
    | true=>k::readyB all os bs (k+1)
    | false=>readyB all os bs (k+1):=rfl
  have ih:=zb2 (all:=all) (os:=os) (bs:=bs) (k:=k+1) (i:=i)
  have split:(∃ j o',i=k+j∧(o::os)[j]?= some o'∧(b::bs)[j]?= some false∧o'.after.toList.all (fun e=>!Region.binds .any e || all.getD e.on false)=true)↔
    (i=k∧b=false∧o.after.toList.all (fun e=>!Region.binds .any e || all.getD e.on false)=true)∨i ∈ readyB all os bs (k+1):=by
   rw [ih]
   constructor
   ·rintro ⟨j,o',h1,h2,h3,h4⟩
    cases j with
    | zero=>simp at h2 h3;subst h2;exact .inl ⟨by omega,h3,h4⟩
    | succ j=>exact .inr ⟨j,o',by omega,by simpa using h2,by simpa using h3,h4⟩
   ·rintro (⟨h1,h2,h3⟩ | ⟨j,o',h1,h2,h3,h4⟩)
    ·exact ⟨0,o,by omega,rfl,by simp [h2],h3⟩
    ·exact ⟨j+1,o',by omega,by simpa using h2,by simpa using h3,h4⟩
  rw [split,e]
  cases b with
  | true=>simp
  | false=>
   dsimp only
   split
   ·rename_i h
    rw [h]
    simp only [List.mem_cons,and_true]
   ·rename_i h
    rw [h]
    simp only [Bool.false_eq_true,and_false,false_or]
theorem wx {ops:Array Oper} {listed:Array Bool} (hl:listed.size=ops.size) (i:Nat):i ∈ Region.ready .any ops listed↔i ∈ readyB listed.toList ops.toList listed.toList 0:=by
 rw [zb2]
 unfold Region.ready
 rw [List.mem_filter,List.mem_range]
 have zD:∀ o:Oper,o.after.toList.all (fun e=>!Region.binds .any e || listed.toList.getD e.on false)=o.after.all (fun e=>!Region.binds .any e || listed.getD e.on false):=fun o=>by
  rw [<- Array.all_toList]
  congr 1
  funext e
  rw [List.getD_eq_getElem?_getD,Array.getElem?_toList,Array.getD_eq_getD_getElem?]
 constructor
 ·rintro ⟨h1,h2⟩
  rw [Bool.and_eq_true] at h2
  obtain ⟨h2,h3⟩:=h2
  obtain ⟨o,ho⟩:∃ o,ops[i]?= some o:=⟨ops[i],by simp [h1]⟩
  rw [ho] at h3
  simp only [Option.map_some,Option.getD_some] at h3
  refine ⟨i,o,by omega,by rw [Array.getElem?_toList];exact ho,?_,by rw [zD];exact h3⟩
  rw [Array.getElem?_toList]
  rw [Array.getD_eq_getD_getElem?,Array.getElem?_eq_getElem (by omega)] at h2
  simp only [Option.getD_some] at h2
  rw [Array.getElem?_eq_getElem (by omega)]
  simpa using h2
 ·rintro ⟨j,o,h1,h2,h3,h4⟩
  obtain rfl:i=j:=by omega
  rw [Array.getElem?_toList] at h2 h3
  have hlt:=(Array.getElem?_eq_some_iff.1 h2).1
  refine ⟨hlt,?_⟩
  rw [Bool.and_eq_true]
  rw [zD] at h4
  refine ⟨?_,by rw [h2];simpa using h4⟩
  rw [Array.getD_eq_getD_getElem?,h3]
  rfl
theorem zcS {f:Nat->Prop}:∀ {l:List Nat},bothK f l->∀ i ∈ l,f i
 | [],_,i,hi=>by cases hi
 | j::l,h,i,hi=>by
  have h:f j∧bothK f l:=h
  rcases List.mem_cons.1 hi with rfl | hi
  ·exact h.1
  ·exact zcS h.2 i hi
theorem qp.zm1 {o:Oper} {tmps:List C} {H:ze} {R:C->ze->Prop} {x:C} {dst:Option Tmp} {ops:Array Oper} (h:∀ d,dst=some d->d ∉ o.looksAt ops) (h':qp P o (ev (put tmps dst x)) H R):qp P o (ev tmps) H R:=
 fun w E σ hh hl hc K hk=>h' w E σ hh (fun y hy=>by rw [zf3 (zbW h y hy)];exact hl y hy) hc K hk
theorem qp.zjs {o:Oper} {ρ:Operand->C} {H:ze} {R R':C->ze->Prop} (hR:∀ c H',R c H'->R' c H') (h:qp P o ρ H R):qp P o ρ H R':=
 fun w E σ hh hl hc K hk=>h w E σ hh hl hc K fun c H' v w' E' h1=>hk c H' v w' E' (hR c H' h1)
def zbs (P:Program) (ops:Array Oper) (X:ze->Prop) (i:Nat) (K:S->Prop) (s:S):Prop:=
 match ops[i]? with
 | none=>K s
 | some o=>(qk ops s.tmps o=some true∧qp P o (ev s.tmps) s.H fun c H'=>X H'∧K ⟨put s.tmps o.dst c,H'⟩)∨(qk ops s.tmps o=some false∧K ⟨put s.tmps o.dst .un,s.H⟩)
theorem zhC {ops:Array Oper} {X:ze->Prop} {i:Nat} {s:S} {K K':S->Prop} (hX:X s.H) (h:∀ s,X s.H->K s->K' s) (hh:zbs P ops X i K s):zbs P ops X i K' s:=by
 unfold zbs at *
 split
 ·exact h _ hX (by simpa [*] using hh)
 ·rename_i o ho
  simp only [ho] at hh
  rcases hh with ⟨h1,h2⟩ | ⟨h1,h2⟩
  ·exact .inl ⟨h1,h2.zjs fun c H' ⟨h3,h4⟩=>⟨h3,h _ h3 h4⟩⟩
  ·exact .inr ⟨h1,h _ hX h2⟩
def zfK (P:Program) (md:Region.Mode) (ops:Array Oper) (X:ze->Prop) (Q:S->Prop):Nat->Array Bool->S->Prop
 | 0,listed,s=>Region.ready md ops listed=[]∧Q s
 | fuel+1,listed,s=>(Region.ready md ops listed=[]->Q s)∧∀ i ∈ Region.ready md ops listed,zbs P ops X i (zfK P md ops X Q fuel (listed.setIfInBounds i true)) s
theorem xp {P:Program} {B:Nat} {ops:Array Oper} {md:Region.Mode} {X:ze->Prop} {q:Option Nat} {m:Nat} {H0:ze} {Q:S->Prop} {w0:World} {E0:Env} {Q':Exit->Act->World->Prop} (hQ:∀ s w E a,Q s->qY B m w E s a->qi B w0 E0 H0 w E s.H->Q' .normal a w):
  ∀ (fuel:Nat) (listed:Array Bool) (s:S) (w:World) (E:Env) (a:Act),qY B m w E s a->qi B w0 E0 H0 w E s.H->zfK P md ops X Q fuel listed s->wpAnyIn (fw q) 0 P md ops Q' fuel listed a w
 | 0,_,s,w,E,a,hs,hg,h=>⟨h.1,hQ s w E a h.2 hs hg⟩
 | fuel+1,listed,s,w,E,a,hs,hg,h=>⟨fun h0=>hQ s w E a (h.1 h0) hs hg,fun i hi=>by
   have h1:=h.2 i hi
   unfold zbs at h1
   unfold wpOpIn
   split
   ·rename_i ho
    simp only [ho] at h1
    exact xp hQ fuel _ s w E a hs hg h1
   ·rename_i o ho
    simp only [ho] at h1
    rcases h1 with ⟨hw,hv⟩ | ⟨hw,hK⟩
    ·rw [if_pos (qq hs.tmps hw)]
     refine kc.zbl (s:=s) hv q m w E a _ Q' hs fun s' w' E' a' hR h2 g2=>?_
     obtain ⟨c,H',⟨_,h3⟩,rfl⟩:=hR
     exact xp hQ fuel _ _ w' E' a' h2 (hg.trans g2) h3
    ·rw [if_neg (by rw [qq hs.tmps hw];decide)]
     exact ⟨fun _ _=>trivial,xp hQ fuel _ ⟨put s.tmps o.dst .un,s.H⟩ w E _ (hs.put .un o.dst) hg hK⟩⟩
theorem zhD {ops:Array Oper} {X:ze->Prop} {j:Nat} {oi oj:Oper} {c:C} (hj:ops[j]?= some oj) (hap:oi.apart ops oj=true) {K:S->Prop} {s:S} (hy:YA P ops X oi c s.tmps)
  (h:zbs P ops X j K ⟨put s.tmps oi.dst c,s.H⟩):zbs P ops X j (fun s'=>YA P ops X oi c s'.tmps∧K ⟨put s'.tmps oi.dst c,s'.H⟩) s:=by
 obtain ⟨h1,h2,h3⟩:=Oper.apart_spec hap
 unfold zbs at *
 simp only [hj] at *
 rcases h with ⟨hw,hv⟩ | ⟨hw,hK⟩
 ·refine .inl ⟨(jR h1) ▸ hw,(hv.zjs fun c' H' ⟨h4,h5⟩=>⟨h4,(YA.put h3).2 hy,?_⟩).zm1 h1⟩
  rw [put_comm _ _ h2] at h5
  exact h5
 ·refine .inr ⟨(jR h1) ▸ hw,(YA.put h3).2 hy,?_⟩
  rw [put_comm _ _ h2] at hK
  exact hK
theorem zfL {ops:Array Oper} {md:Region.Mode} {X:ze->Prop} {Q:S->Prop} {i:Nat} {oi:Oper} {c:C} (hi:ops[i]?= some oi):
  ∀ (fuel:Nat) (listed:Array Bool) (s:S),X s.H->
   (∀ j oj,ops[j]?= some oj->j≠i->listed.getD j true=false->(∀ e ∈ oj.after,Region.binds md e=true->e.on≠i)->oi.apart ops oj=true)->
   i ∈ Region.ready md ops listed->YA P ops X oi c s.tmps->
   zfK P md ops X Q fuel (listed.setIfInBounds i true) ⟨put s.tmps oi.dst c,s.H⟩->zfK P md ops X Q (fuel+1) listed s:=by
 have here:∀ (s:S) (K:S->Prop),X s.H->YA P ops X oi c s.tmps->K ⟨put s.tmps oi.dst c,s.H⟩->zbs P ops X i K s:=fun s K hX hy hK=>by
  unfold zbs
  simp only [hi]
  rcases hy with ⟨h1,h2⟩ | ⟨h1,rfl⟩
  ·exact .inl ⟨h1,(h2 s.H hX).toR ⟨hX,hK⟩⟩
  ·exact .inr ⟨h1,hK⟩
 intro fuel
 induction fuel with
 | zero=>
  intro listed s hX _ hr hy H
  refine ⟨fun h=>(by rw [h] at hr;cases hr),fun j hj=>?_⟩
  by_cases hji:j=i
  ·subst hji;exact here s _ hX hy H
  ·have:=ready_mono hj hji
   rw [H.1] at this
   cases this
 | succ fuel ih=>
  intro listed s hX hfree hr hy H
  refine ⟨fun h=>(by rw [h] at hr;cases hr),fun j hj=>?_⟩
  by_cases hji:j=i
  ·subst hji;exact here s _ hX hy H
  ·have h1:=H.2 j (ready_mono hj hji)
   obtain ⟨hjun,oj,hoj,zD⟩:=mem_ready.1 hj
   have hnot:∀ e ∈ oj.after,Region.binds md e=true->e.on≠i:=fun e he hb heq=>by
    have h1:=zD e he hb
    have h0:=(mem_ready.1 hr).1
    rw [heq] at h1
    rcases Nat.lt_or_ge i listed.size with h' | h'
    ·simp [h'] at h0 h1;rw [h0] at h1;cases h1
    ·simp [Array.getElem?_eq_none h'] at h1
   have hap:=hfree j oj hoj hji hjun hnot
   have h2:=zhD hoj hap hy h1
   have hfree':∀ k ok,ops[k]?= some ok->k≠i->(listed.setIfInBounds j true).getD k true=false->
     (∀ e ∈ ok.after,Region.binds md e=true->e.on≠i)->oi.apart ops ok=true:=fun k ok hk hki hun hno=>by
    refine hfree k ok hk hki ?_ hno
    by_cases hjk:j=k
    ·subst hjk;exact hjun
    ·rw [getD_set_ne true hjk] at hun;exact hun
   refine zhC hX (fun s' hX' ⟨h3,h4⟩=>ih (listed.setIfInBounds j true) s' hX' hfree' (ready_mono hr (Ne.symm hji)) h3 ?_) h2
   rw [Array.setIfInBounds_comm _ _ hji]
   exact h4
theorem zcz {md:Region.Mode} {ops:Array Oper} (h:yy md ops=true) {i j:Nat} {oi oj:Oper} (hi:ops[i]?= some oi) (hj:ops[j]?= some oj) (hne:j≠i) (hd:za9 md ops (yJ md ops) i j=false)
  (hno:∀ e ∈ oj.after,Region.binds md e=true->e.on≠i):oi.apart ops oj=true:=by
 simp only [yy,ziL,List.all_eq_true,List.mem_range] at h
 have h1:=h i (Array.getElem?_eq_some_iff.1 hi).1 j (Array.getElem?_eq_some_iff.1 hj).1
 have hb:Nat.beq j i=false:=by
  cases hb:Nat.beq j i with
  | false=>rfl
  | true=>exact absurd (Nat.eq_of_beq_eq_true hb) hne
 simp only [hb,hd,Bool.false_or,hi,hj,Bool.or_eq_true] at h1
 rcases h1 with h1 | h1
 ·obtain ⟨e,hem,hb⟩:=Array.any_eq_true'.1 h1
  simp only [Bool.and_eq_true,beq_iff_eq] at hb
  exact absurd hb.2 (hno e hem hb.1)
 ·exact h1
theorem XC.trans {T:Eag} {H H' H'':ze} (h:XC T H H') (h':XC T H' H''):XC T H H'':=⟨h.1.trans h'.1,h'.2⟩
theorem XC.back {T:Eag} {H H' H'':ze} (h:XC T H H') (h':XC T H H''):XC T H' H'':=⟨fun id hi=>(h'.1 id hi).trans (h.1 id hi).symm,h'.2⟩
theorem zeC {T:Eag} {o:Oper} {ρ:Operand->C} {H:ze} {K:C->ze->Prop} (h:zfQ P T H ρ o K):∃ c,(∀ H2,XC T H H2->OpV P o ρ H2 c H2)∧K c H:=by
 unfold zfQ at h
 split at h
 ·rename_i cl ho
  split at h
  ·rename_i x hcl
   split at h
   ·rename_i f first caps hf
    obtain ⟨h1,r,h2,h3⟩:=zx h
    exact ⟨r,fun H2 hx=>.ziU cl ho x hcl hf h1 (h2 H2 hx),z7 (k:=fun c=>K c H) h3⟩
   ·exact h.elim
  ·exact h.elim
 ·obtain ⟨c,h1,h2⟩:=zay h
  exact ⟨c,fun H2 hx=>h1 H2 hx.1,h2⟩
theorem zgV {T:Eag} {H0 H H':ze} {k:Prop} (hX:XC T H0 H) (h:zjU T H H' k):XC T H0 H'∧k:=by
 unfold zjU at h
 split at h
 ·obtain ⟨h1,h2⟩:=yZ h.2
  exact ⟨⟨hX.1.trans h1,fun _=>h.1⟩,h2⟩
 ·rename_i hf
  obtain ⟨h1,h2⟩:=yZ h
  exact ⟨⟨hX.1.trans h1,fun h=>by rw [hf] at h;cases h⟩,h2⟩
theorem vS {bl:List Nat} {ops:Array Oper} {t:List C}:∀ {l:List Nat} {i:Nat},pickE bl ops t l=some i->i ∈ l
 | [],i,h=>by cases h
 | j::l,i,h=>by
  have h:(match ops[j]? with
   | some o=>match qQ o || zb1 bl j with
    | true=>some j
    | false=>match qk ops t o with
     | some b=>match b with
      | true=>pickE bl ops t l
      | false=>some j
     | none=>pickE bl ops t l
   | none=>pickE bl ops t l)=some i:=h
  split at h
  ·split at h
   ·cases h;exact List.mem_cons_self ..
   ·split at h
    ·split at h
     ·exact List.mem_cons_of_mem _ (vS h)
     ·cases h;exact List.mem_cons_self ..
    ·exact List.mem_cons_of_mem _ (vS h)
  ·exact List.mem_cons_of_mem _ (vS h)
theorem kq {T:Eag} {ops:Array Oper} {H0:ze} {K:List C->ze->Prop} (hap:yy .any ops=true):
  ∀ (fuel:Nat) (listed:Array Bool) (t:List C) (H:ze),Down .any ops listed->listed.size=ops.size->XC T H0 H->bruteK P T ops fuel listed.toList t H K->
   zfK P .any ops (XC T H0) (fun s=>K s.tmps s.H) fuel listed ⟨t,H⟩
 | 0,listed,t,H,hd,hl,hX,h=>by
  have h:match readyB listed.toList ops.toList listed.toList 0 with
   | []=>K t H
   | _::_=>False:=h
  split at h
  ·rename_i hr
   refine ⟨?_,h⟩
   rw [List.eq_nil_iff_forall_not_mem]
   intro i hi
   have:=(wx hl i).1 hi
   rw [hr] at this
   cases this
  ·exact h.elim
 | fuel+1,listed,t,H,hd,hl,hX,h=>by
  have h:match readyB listed.toList ops.toList listed.toList 0 with
   | []=>K t H
   | i::is=>match pickE T.bl ops t (i::is) with
    | some i=>match ops[i]? with
     | some o=>opE P T ops o i (fun t H K=>bruteK P T ops fuel (listed.toList.set i true) t H K) t H K
     | none=>False
    | none=>bothK (fun i=>match ops[i]? with
     | some o=>opS P T ops o (fun t H K=>bruteK P T ops fuel (listed.toList.set i true) t H K) t H K
     | none=>False) (i::is):=h
  split at h
  ·rename_i hr
   have h0:Region.ready .any ops listed=[]:=by
    rw [List.eq_nil_iff_forall_not_mem]
    intro i hi
    have:=(wx hl i).1 hi
    rw [hr] at this
    cases this
   exact ⟨fun _=>h,fun i hi=>by rw [h0] at hi;cases hi⟩
  ·rename_i j js hr
   have hset:∀ i,(listed.setIfInBounds i true).toList=listed.toList.set i true:=fun i=>by simp
   have hsz:∀ i,(listed.setIfInBounds i true).size=ops.size:=fun i=>by simpa using hl
   split at h
   ·rename_i i hp
    have hi:i ∈ Region.ready .any ops listed:=(wx hl i).2 (by rw [hr];exact vS hp)
    split at h
    rotate_left
    ·exact h.elim
    rename_i o ho
    have go:∀ c,YA P ops (XC T H0) o c t->bruteK P T ops fuel (listed.toList.set i true) (put t o.dst c) H K->zfK P .any ops (XC T H0) (fun s=>K s.tmps s.H) (fuel+1) listed ⟨t,H⟩:=fun c hy hb=>
     zfL ho fuel listed ⟨t,H⟩ hX (fun j oj hj hne hun hno=>zcz hap ho hj hne (by
       cases hdp:za9 .any ops (yJ .any ops) i j with
       | false=>rfl
       | true=>
        have h1:=hd.ready hi hdp
        rcases Nat.lt_or_ge j listed.size with h' | h'
        ·simp [h'] at h1 hun;rw [h1] at hun;cases hun
        ·simp [Array.getElem?_eq_none h'] at h1) hno) hi hy
      (kq hap fuel _ _ _ (hd.step hi) (hsz i) hX (by rw [hset];exact hb))
    unfold opE at h
    split at h
    ·rename_i hw
     split at h
     ·obtain ⟨c,h1,h2⟩:=zeC h
      exact go c (.inl ⟨hw,fun H2 h3=>h1 H2 (hX.back h3)⟩) (qn (k:=fun t=>bruteK P T ops fuel (listed.toList.set i true) t H K) h2)
     ·split at h
      ·rename_i hb
       obtain ⟨c,h1,h2⟩:=za2 hb h
       exact go c (.inl ⟨hw,fun H2 _=>h1 H2⟩) (qn (k:=fun t=>bruteK P T ops fuel (listed.toList.set i true) t H K) h2)
      ·exact h.elim
    ·rename_i hw
     exact go .un (.inr ⟨hw,rfl⟩) (qn (k:=fun t=>bruteK P T ops fuel (listed.toList.set i true) t H K) h)
    ·exact h.elim
   ·have hne:Region.ready .any ops listed≠[]:=fun h0=>by
     have:j ∈ readyB listed.toList ops.toList listed.toList 0:=by rw [hr];exact List.mem_cons_self ..
     have:=(wx hl j).2 this
     rw [h0] at this
     cases this
    refine ⟨fun h0=>absurd h0 hne,fun i hi=>?_⟩
    have hi2:=(wx hl i).1 hi
    rw [hr] at hi2
    have h1:=zcS h i hi2
    split at h1
    rotate_left
    ·exact h1.elim
    rename_i o ho
    unfold zbs
    rw [ho]
    dsimp only
    have next:∀ t' H',XC T H0 H'->bruteK P T ops fuel (listed.toList.set i true) t' H' K->zfK P .any ops (XC T H0) (fun s=>K s.tmps s.H) fuel (listed.setIfInBounds i true) ⟨t',H'⟩:=fun t' H' hX' hb=>
     kq hap fuel _ _ _ (hd.step hi) (hsz i) hX' (by rw [hset];exact hb)
    unfold opS at h1
    split at h1
    ·rename_i hw
     refine .inl ⟨hw,?_⟩
     split at h1
     ·rename_i hlo
      obtain ⟨c,h2,h3⟩:=zcn hlo h1
      exact h2.toR ⟨hX,next _ _ hX (qn (k:=fun t=>bruteK P T ops fuel (listed.toList.set i true) t H K) h3)⟩
     ·refine (zb5 h1).zjs fun c H' h2=>?_
      obtain ⟨h3,h4⟩:=zgV hX h2
      exact ⟨h3,next _ _ h3 (qn (k:=fun t=>bruteK P T ops fuel (listed.toList.set i true) t H' K) h4)⟩
    ·rename_i hw
     exact .inr ⟨hw,next _ _ hX (qn (k:=fun t=>bruteK P T ops fuel (listed.toList.set i true) t H K) h1)⟩
    ·exact h1.elim
theorem z1.zme {P:Program} {B:Nat} {ops:Array Oper} {id:Nat} {t:List C} {H:ze} {R:Exit->S->Prop} {R':List C->ze->Prop} {T:Eag} (hm:P.follows .mixedOrders=true) (hap:yy .any ops=true) (hf:T.flat=true->jd H=true)
  (h:bruteK P T ops ops.size (ops.toList.map fun _=>false) t H (fun t1 H1=>∃ t2 H2,zl B ⟨t1,H1⟩ ⟨t2,H2⟩∧R' t2 H2)) (hR:∀ t2 H2,R' t2 H2->R .normal ⟨t2,H2⟩):z1 P B (.region id ops true) ⟨t,H⟩ R:=fun q m w E a Q _ hs hq=>by
 refine wpIn_region_any hm (xp (X:=XC T H) (H0:=H) (Q:=fun s=>∃ t2 H2,zl B s ⟨t2,H2⟩∧R' t2 H2) (w0:=w) (E0:=E) (fun s1 w1 E1 a1 he h1 g1=>?_) _ _ ⟨t,H⟩ _ E a hs.drew ((Grow.drew w E H).toB (by rw [hs.heap.n];exact hs.base)) ?_)
 ·obtain ⟨t2,H2,hw,hR2⟩:=he
  obtain ⟨E2,h2,g2⟩:=hw m w1 E1 a1 h1
  exact hq _ _ w1 E2 a1 (hR t2 H2 hR2) h2 (g1.trans g2)
 ·have e:(Array.replicate ops.size false).toList=ops.toList.map fun _=>false:=by
   rw [Array.toList_replicate,List.map_const']
   simp
  refine kq (K:=fun t1 H1=>∃ t2 H2,zl B ⟨t1,H1⟩ ⟨t2,H2⟩∧R' t2 H2) hap _ _ _ _ Down.start (by simp) ⟨.refl _ _,hf⟩ ?_
  rw [e]
  exact h
structure kK (P:Program) (B:Nat) (c:Code) (t:List C) (H:ze) (K:Exit->List C->ze->Prop):Prop where
 out:zM P B c ⟨t,H⟩ fun ex s=>K ex s.tmps s.H
def zmr (P:Program) (B:Nat) (c:Code):WK:=fun t H K=>kK P B c t H K
def zgN (P:Program) (B:Nat) (g:Operand) (ps:Array Tmp) (assign body:Code):WK:=fun t H K=>match ev t g with
 | .fn f first caps=>bK (zA P f && first.isEmpty) <| ∃ H0,zl B ⟨t,H⟩ ⟨t,H0⟩∧∃ ex t' H',(∀ (l:Nat) (r:Loop),r.state=.ready->r.pending=none->r.params=ps->r.assign=assign->r.body=body->
   ∃ (rr:C) (Hf:ze) (rf:Loop),zb P f (H0++[obR l r t]) (.v (.func (.yield l) #[] #[])::caps) rr Hf∧Hf[H0.length]?= some (obR l rf t)∧rf.state≠.busy∧rf.tmps=r.tmps∧B<=Hf.length∧zmz rf.pending ex∧
    zl B ⟨t,Hf.set H0.length (obR l { rf with state:=.exhausted } t)⟩ ⟨t',H'⟩)∧K ex t' H'
 | _=>False
structure zbt (P:Program) (B:Nat) (c:Code) (l:Nat) (t:List C) (H:ze) (K:Exit->List C->ze->Prop):Prop where
 out:zbu P B c (fun ex s=>K ex s.tmps s.H) l ⟨t,H⟩
def zlN (P:Program) (B:Nat) (c:Code) (x:WK):WK:=fun t H K=>x t H fun ex t H=>match ex with
 | .goto l=>zbt P B c l t H K
 | ex=>K ex t H
def noK:WK:=fun _ _ _=>False
noncomputable def wpA (P:Program) (B:Nat) (c:Code):WK:=
 Code.rec (motive:=fun _=>WK) (fun t H K=>K .normal t H) (fun _ ops draw=>regionK P B ops draw) (fun _ _ x y=>zm3 x y) (fun c _ _ x y=>zi1 c x y) (fun id _ x=>zlo id x) (fun c _=>zmr P B c)
  (fun g ps assign body _ _=>zgN P B g ps assign body) (fun id t H K=>K (.exit id) t H) (fun c x=>zlN P B c x) (fun _ t H K=>K .normal t H) (fun l t H K=>K (.goto l) t H) (fun t H K=>K .ret t H) (fun _=>noK) c
theorem qx:∀ {c:Code} {t:List C} {H:ze} {K:Exit->List C->ze->Prop},wpA P B c t H K->z1 P B c ⟨t,H⟩ fun ex s=>K ex s.tmps s.H:=by
 intro c
 induction c with
 | skip=>intro t H K h;exact .skip h
 | exit id=>intro t H K h;exact .exit id h
 | ret=>intro t H K h;exact .ret h
 | label l=>intro t H K h;exact .label l h
 | seq x y ihx ihy=>
  intro t H K h
  refine .seq ((ihx (t:=t) (H:=H) (K:=fun ex t H=>match ex with | .normal=>wpA P B y t H K | ex=>K ex t H) h).mono fun ex s1 h1=>?_)
  cases ex with
  | normal=>exact ihy h1
  | _=>exact h1
 | block id c ih=>
  intro t H K h
  refine .block ((ih (t:=t) (H:=H) (K:=fun ex t H=>match ex with | .exit id'=>if id'=id then K .normal t H else K (.exit id') t H | ex=>K ex t H) h).mono fun ex s1 h1=>?_)
  cases ex with
  | exit id'=>exact h1
  | _=>exact h1
 | scope c ih=>
  intro t H K h
  refine .zlM ((ih (t:=t) (H:=H) (K:=fun ex t H=>match ex with | .goto l=>zbt P B c l t H K | ex=>K ex t H) h).mono fun ex s1 h1=>?_)
  cases ex with
  | goto l=>exact (show zbt P B c l s1.tmps s1.H K from h1).out
  | _=>exact h1
 | goto l=>intro t H K h;exact .goto l h
 | cond c x y ihx ihy=>
  intro t H K h
  change zi1 c (wpA P B x) (wpA P B y) t H K at h
  unfold zi1 at h
  split at h
  ·rename_i b hb
   cases b with
   | true=>exact .cond (s:=⟨t,H⟩) hb (ihx h)
   | false=>exact .cond (s:=⟨t,H⟩) hb (ihy h)
  ·exact h.elim
 | region id ops draw=>
  intro t H K h
  cases draw with
  | false=>exact .region (zam (show zal P ops ops.toList t H (fun t H=>K .normal t H) from h))
  | true=>
   rcases (show (∃ T:vc,(P.follows .mixedOrders && Region.lexB .any ops && zdm .any T ops)=true∧wq P T ops ops.toList 0 t H fun t H=>K .normal t H)∨
    ∃ T:Eag,(P.follows .mixedOrders && yy .any ops)=true∧(T.flat=true->jd H=true)∧∃ R:List C->ze->Prop,bruteK P T ops ops.size (ops.toList.map fun _=>false) t H (fun t1 H1=>∃ t2 H2,zl B ⟨t1,H1⟩ ⟨t2,H2⟩∧R t2 H2)∧∀ t2 H2,R t2 H2->K .normal t2 H2 from h) with h | ⟨T,hm,hf,R,h1,h2⟩
   rotate_left
   ·rw [Bool.and_eq_true] at hm
    exact z1.zme hm.1 hm.2 hf h1 h2
   obtain ⟨T,h1,h2⟩:=h
   simp only [Bool.and_eq_true] at h1
   obtain ⟨s',h3,h4⟩:=Run.zmg (B:=B) (id:=id) h1.1.1 h1.1.2 h1.2 h2
   exact z1.mono h3 fun ex s1 ⟨e1,e2⟩=>by subst e1 e2;exact h4
 | loop c ih=>intro t H K h;exact .loop (show kK P B c t H K from h).out
 | rangeFunc g ps assign body=>
  intro t H K h
  change zgN P B g ps assign body t H K at h
  unfold zgN at h
  split at h
  ·rename_i f first caps hg
   obtain ⟨h1,H0,h0,ex,t',H',h2,h3⟩:=zx h
   simp only [Bool.and_eq_true,List.isEmpty_iff] at h1
   obtain ⟨h1,rfl⟩:=h1
   refine .pre h0 (.rangeFunc hg h1 fun l r a1 a2 a3 a4 a5=>?_)
   obtain ⟨rr,Hf,rf,b1,b2,b3,b4,b5,b6,b7⟩:=h2 l r a1 a2 a3 a4 a5
   exact ⟨rr,Hf,rf,ex,⟨t',H'⟩,b1,b2,b3,b4,b5,b6,b7,h3⟩
  ·exact h.elim
 | _=>intro t H K h;exact (show False from h).elim
theorem zbt.go {c rest:Code} {l:Nat} {t:List C} {H:ze} {K:Exit->List C->ze->Prop} (hf:findLabel c l=some rest)
  (h:wpA P B rest t H fun ex t H=>match ex with | .goto l=>zbt P B c l t H K | ex=>K ex t H):zbt P B c l t H K:=by
 refine ⟨.mk _ hf (qx h) (fun e s h1 he=>?_) fun l s h1=>(show zbt P B c l s.tmps s.H K from h1).out⟩
 cases e with
 | goto l=>exact absurd rfl (he l)
 | _=>exact h1
theorem qK.zF {H1 H':ze} {id l:Nat} {r:Loop} {t:List C} {args:List C} {rv:Bool} {ps:Array Tmp} {assign body:Code} (hob:H1[id]?= some (obR l r t)) (hst:r.state=.ready) (hpe:r.pending=none) (hps:r.params=ps) (ha:r.assign=assign) (hb:r.body=body)
  (hn:args.length=ps.size) (hna:qO assign=false) (hnb:qO body=false)
  (h:wpA P H1.length assign (zgJ t ps.toList args) H1 fun e t1 H1'=>e=.normal∧H1'[id]?= some (obR l r t)∧wpA P H1.length body t1 (H1'.set id (obR l (busy r) t)) fun e t2 H2=>
   ∃ t3 H3,zl H1.length ⟨t2,H2⟩ ⟨t3,H3⟩∧zjP id l r t rv H' e H3):
  qK P l H1 args (.v (.bool rv)) H':=by
 subst hps ha hb
 refine qK.x4 hob hst hpe hn hna hnb ((qx h).mono fun e s1 ⟨h1,h2,h3⟩=>⟨h1,h2,(qx h3).mono fun e s2 ⟨t3,H3,h4,h5⟩=>⟨⟨t3,H3⟩,h4,h5⟩⟩)
theorem zM.inv {c:Code} {t:List C} {H:ze} {K:Exit->List C->ze->Prop} (I:Nat->List C->ze->Prop) (n:Nat) (h0:∃ t0 H0,zl B ⟨t,H⟩ ⟨t0,H0⟩∧I n t0 H0)
  (step:∀ n t H,I n t H->wpA P B c t H fun e t1 H1=>(e=.normal∧∃ m t2 H2,m < n∧zl B ⟨t1,H1⟩ ⟨t2,H2⟩∧I m t2 H2)∨(e≠.normal∧K e t1 H1)):
  kK P B c t H K:=by
 obtain ⟨t0,H0,hw,hI⟩:=h0
 refine ⟨.pre hw ?_⟩
 suffices key:∀ n t H,I n t H->vi P B c (n+1) ⟨t,H⟩ fun ex s=>K ex s.tmps s.H from ⟨n+1,key n t0 H0 hI⟩
 intro n
 induction n using Nat.strongRecOn with
 | _ n ih=>
  intro t H hI
  refine .step ((qx (step n t H hI)).post fun ex s1 h1=>?_)
  rcases h1 with ⟨rfl,m,t2,H2,hm,hw2,hI2⟩ | ⟨hne,hK⟩
  ·exact ⟨⟨t2,H2⟩,hw2,(vi.more (by omega) (ih m hm t2 H2 hI2):vi P B c n ⟨t2,H2⟩ _)⟩
  ·refine ⟨s1,.refl s1,?_⟩
   cases ex with
   | normal=>exact absurd rfl hne
   | _=>exact hK
theorem zb.zF {f:FuncId} {fn:Func} {c:Code} {H H':ze} {args:List C} {r:C} (hf:P.funcs[f]?= some fn) (hb:fn.body=some c)
  (h:wpA P H.length c (entry fn args) H fun ex t1 H1=>(ex=.ret∨ex=.normal)∧∃ s2,zl H.length ⟨t1,H1⟩ s2∧s2.H=H'∧yx P fn s2=some r):zb P f H args r H':=
 qe.at (qe.x4 hf hb ((qx h).mono fun ex s1 ⟨hex,s2,hw,h2,h3⟩=>⟨hex,s2,r,hw,h3,rfl,h2⟩))
theorem qe.zF {f:FuncId} {fn:Func} {c:Code} {H:ze} {args:List C} {R:C->ze->Prop} (hf:P.funcs[f]?= some fn) (hb:fn.body=some c)
  (h:wpA P H.length c (entry fn args) H fun ex t1 H1=>(ex=.ret∨ex=.normal)∧∃ s2 r,zl H.length ⟨t1,H1⟩ s2∧yx P fn s2=some r∧R r s2.H):qe P f H args R:=
 qe.x4 hf hb (qx h)
theorem zb.zd5 {f:FuncId} {fn:Func} {c:Code} {args:List C} {r:C} (hf:P.funcs[f]?= some fn) (hb:fn.body=some c)
  (h:wpA P 0 c (entry fn args) [] fun ex t1 H1=>(ex=.ret∨ex=.normal)∧∃ s2,zl 0 ⟨t1,H1⟩ s2∧yx P fn s2=some r) (hr:j5 0 9 r=true):zb P f [] args r []:=
 qe.close (R:=fun c=>c=r) (qe.x4 (H:=[]) (R:=fun c _=>c=r) hf hb ((qx h).mono fun ex s1 ⟨hex,s2,hw,h2⟩=>⟨hex,s2,r,hw,h2,rfl⟩)) fun c h=>⟨h,hr⟩
end
end Go.Ab
namespace Go.Ab
theorem qf {n:Int} (h0: -9223372036854775808<=n) (h1:n<=9223372036854775807):IntKind.i64.wrap n=n:=IntWalk.i64_in n ⟨h0,h1⟩
theorem zp {n:Nat} (h:n < 9223372036854775807):IntKind.i64.wrap ((n:Int)+1)=((n+1:Nat):Int):=by rw [qf (by omega) (by omega)];rfl
section
variable {P:Program} {f:FuncId} {H H':ze}
theorem zb.pre {args args':List C} {r:C} (h:zb P f H args' r H') (hw:WCs args args'):zb P f H args r H':=fun w E vs hh hl=>h w E vs hh (hw.LL hl)
theorem zb.post {args:List C} {r r':C} (h:zb P f H args r H') (hw:WC r r'):zb P f H args r' H':=fun w E vs hh hl=>(h w E vs hh hl).mono fun e w' ⟨v,E',h1,h2,h3,h4⟩=>⟨v,E',h1,h2,hw E' v h3,h4⟩
theorem toNat_cast (n:Nat):((n:Int)).toNat=n:=by simp
end
theorem zb3 {P:Program} {f:FuncId} {vs:Array Value} {v:Value} {args:List C} {r:C} (H:ze) (hc:∀ w,Calls P f vs w fun e w'=>e=.returned v∧w'=w) (ha:∀ E (us:Array Value),LL E args us.toList->us=vs) (hr:∀ E,L E r v):zb P f H args r H:=fun w E us hh hl=>by
 obtain rfl:=ha E us hl
 refine (hc w).mono ?_
 rintro e w' ⟨rfl,rfl⟩
 exact ⟨v,E,rfl,hh,hr E,Grow.refl _ _ _⟩
theorem zmd {a:Value} (E:Env) (us:Array Value) (h:LL E [.v a] us.toList):us= #[a]:=by
 obtain ⟨l⟩:=us
 match l,h with
 | [],h=>have:=h.1;simp at this
 | [x],h=>
  obtain ⟨h1,_⟩:=h.cons_inv
  cases h1;rfl
 | _::_::_,h=>have:=h.1;simp at this
theorem zkX {a b:Value} (E:Env) (us:Array Value) (h:LL E [.v a,.v b] us.toList):us= #[a,b]:=by
 obtain ⟨l⟩:=us
 match l,h with
 | [],h=>have:=h.1;simp at this
 | [_],h=>have:=h.1;simp at this
 | [x,y],h=>
  obtain ⟨h1,h2⟩:=h.cons_inv
  obtain ⟨h2,_⟩:=h2.cons_inv
  cases h1;cases h2;rfl
 | _::_::_::_,h=>have:=h.1;simp at this
end Go.Ab
namespace Go.Ab
theorem x6 {α:Type} {l:List α} {t:Nat} {y:α} (h:l[t]?= some y):l.set t y=l:=by
 apply List.ext_getElem?
 intro i
 rw [List.getElem?_set]
 split
 ·rename_i e
  subst e
  obtain ⟨h1,h2⟩:=List.getElem?_eq_some_iff.1 h
  rw [if_pos h1,h]
 ·rfl
section
variable {B:Nat} {s:S}
theorem zB.freeze {w:World} {E:Env} {H:ze} (h:zB w E H) {id:Nat} {ob:Ob} (hob:H[id]?= some ob) (hk:ob.kind=2) (hno:∀ i k c,cellAt ob.rows i k=some c->zw c=true):
  ∃ E',E.le E'∧zB w E' (H.modify id fun ob=>⟨ob.kind,ob.ty,ob.sz,ob.rows,ob.rows.length⟩)∧(∀ b o u,E'.St b o=some u->E.St b o=some u∨b=E.β id [])∧E'.β=E.β∧E'.G=E.G∧
   ∀ i k c,cellAt ob.rows i k=some c->∃ u,E'.St (E.β id []) (i * ob.sz+k)=some u∧L E'.shut c u:=by
 have hgb:zy H id []=some (ob.sz,ob.rows):=by unfold zy;rw [hob];simp [hk,zS]
 have hB:=h.blk id ob [] _ _ hob hgb
 obtain ⟨cur,e,hg,hcs,hcell⟩:=hB.blk
 have key:∀ o,o < ob.rows.length * ob.sz->∃ u,cur[o]?= some u∧u.oneCell'=true∧w.cell? ⟨E.β id [],o,none⟩=some u:=by
  intro o ho
  obtain ⟨h1,h2,h3⟩:=vv ho
  obtain ⟨c,hc⟩:=yj hB.row h1 h2
  obtain ⟨u,hu,hok⟩:=hcell _ _ c hc
  rw [zV.loose (hno _ _ c hc)] at hok
  rw [h3] at hu
  exact ⟨u,hu,hok.2,by unfold World.cell?;rw [hg];simpa using hu⟩
 obtain ⟨E',hE'⟩:∃ E':Env,E'={ E with St:=fun b o=>if b=E.β id []∧o < ob.rows.length * ob.sz then cur[o]? else E.St b o }:=⟨_,rfl⟩
 have hle:E.le E':=by
  subst hE'
  refine ⟨Nat.le_refl _,fun _ _ _=>rfl,fun _ _ _=>rfl,fun b o u hu=>?_,fun _ _ _ _ hu=>hu⟩
  show (if b=E.β id []∧o < ob.rows.length * ob.sz then cur[o]? else E.St b o)=some u
  split
  ·rename_i hc
   obtain ⟨rfl,ho⟩:=hc
   obtain ⟨u',h1,_,h2⟩:=key o ho
   have:=(h.zG _ _ _ hu).1
   rw [h2] at this
   rw [h1,<- this]
  ·exact hu
 have hSt:∀ b o u,E'.St b o=some u->E.St b o=some u∨(b=E.β id []∧o < ob.rows.length * ob.sz∧cur[o]?= some u):=by
  subst hE'
  intro b o u hu
  change (if b=E.β id []∧o < ob.rows.length * ob.sz then cur[o]? else E.St b o)=some u at hu
  split at hu
  ·rename_i hc;exact .inr ⟨hc.1,hc.2,hu⟩
  ·exact .inl hu
 have hβ:E'.β=E.β:=by subst hE';rfl
 have hn:E'.n=E.n:=by subst hE';rfl
 have get:∀ id' hops x,zy (H.modify id fun ob=>⟨ob.kind,ob.ty,ob.sz,ob.rows,ob.rows.length⟩) id' hops=some x->zy H id' hops=some x:=by
  intro id' hops x hx
  obtain ⟨ob',ho',hk',hg'⟩:=z6 hx
  rw [List.getElem?_modify] at ho'
  cases hx':H[id']? with
  | none=>rw [hx'] at ho';cases ho'
  | some ob0=>
   rw [hx'] at ho'
   simp only [Option.map_eq_map,Option.map_some,Option.some.injEq] at ho'
   unfold zy
   rw [hx']
   split at ho'
   ·subst ho';simp only [hk',if_true];exact hg'
   ·subst ho';simp only [hk',if_true];exact hg'
 have obs:∀ (id':Nat) (ob':Ob),(H.modify id fun ob=>⟨ob.kind,ob.ty,ob.sz,ob.rows,ob.rows.length⟩)[id']?= some ob'->∃ ob0,H[id']?= some ob0∧ob'.kind=ob0.kind∧ob'.ty=ob0.ty∧ob'.sz=ob0.sz∧ob'.rows=ob0.rows∧ob0.fz<=ob'.fz∧ob'.fz<=ob'.rows.length∧(id'=id->ob'.fz=ob0.rows.length):=by
  intro id' ob' ho'
  rw [List.getElem?_modify] at ho'
  cases hx':H[id']? with
  | none=>rw [hx'] at ho';cases ho'
  | some ob0=>
   rw [hx'] at ho'
   simp only [Option.map_eq_map,Option.map_some,Option.some.injEq] at ho'
   have:=h.fz id' ob0 hx'
   split at ho'
   ·subst ho';exact ⟨ob0,rfl,rfl,rfl,rfl,rfl,this,Nat.le_refl _,fun _=>rfl⟩
   ·rename_i hne;subst ho';exact ⟨ob0,rfl,rfl,rfl,rfl,rfl,Nat.le_refl _,this,fun e=>absurd e.symm hne⟩
 refine ⟨E',hle,⟨by rw [hn,h.n];simp,?_,?_,?_,?_,?_,?_⟩,fun b o u hu=>(hSt b o u hu).imp_right (·.1),hβ,by subst hE';rfl,?_⟩
 ·intro id' ob' hops sz rows hob' hx
  obtain ⟨ob0,h1,h2,_⟩:=obs id' ob' hob'
  have hx':=get _ _ _ hx
  rw [h2]
  exact (h.blk id' ob0 hops sz rows h1 hx').step hle (by rw [h.n];exact yU hx') rfl
 ·intro id1 p1 id2 p2 x y hx hy he
  rw [hβ] at he
  exact h.inj id1 p1 id2 p2 x y (get _ _ _ hx) (get _ _ _ hy) he
 ·intro b o u hu
  rcases hSt b o u hu with h1 | ⟨rfl,h2,h3⟩
  ·exact h.zG b o u h1
  ·obtain ⟨u',h4,h5,h6⟩:=key o h2
   rw [h3] at h4
   cases h4
   exact ⟨h6,h5⟩
 ·intro id' hops x o u hx hu
  have hx':=get _ _ _ hx
  rw [hβ] at hu
  obtain ⟨ob1,ho1,_,_⟩:=z6 hx
  obtain ⟨ob0,h1,h2,h3,h4,h5,h6,h7,h8⟩:=obs id' ob1 ho1
  rcases hSt _ o u hu with h9 | ⟨h9,h10,_⟩
  ·obtain ⟨e1,ob2,e2,e3⟩:=h.sep id' hops x o u hx' h9
   rw [h1] at e2
   cases e2
   exact ⟨e1,ob1,ho1,by rw [h4];exact Nat.lt_of_lt_of_le e3 (Nat.mul_le_mul_right _ h6)⟩
  ·obtain ⟨rfl,rfl⟩:=h.inj id' hops id [] x _ hx' hgb h9
   rw [hob] at h1
   cases h1
   exact ⟨rfl,ob1,ho1,by rw [h8 rfl,h4];exact h10⟩
 ·intro id' ob' hob' hk'
  obtain ⟨ob0,h1,h2,h3,_⟩:=obs id' ob' hob'
  obtain ⟨cur',hc⟩:=h.ty id' ob0 h1 (by rw [<- h2];exact hk')
  exact ⟨cur',by rw [hβ,h3];exact hc⟩
 ·intro id' ob' hob'
  obtain ⟨ob0,h1,h2,h3,h4,h5,h6,h7,h8⟩:=obs id' ob' hob'
  exact h7
 ·intro i k c hc
  obtain ⟨u,hu,hok⟩:=hcell i k c hc
  rw [zV.loose (hno _ _ c hc)] at hok
  obtain ⟨h1,h2⟩:=vL hB.row hc
  have hlt:i * ob.sz+k < ob.rows.length * ob.sz:=by
   have:(i+1) * ob.sz<=ob.rows.length * ob.sz:=Nat.mul_le_mul_right _ h1
   rw [Nat.add_mul] at this
   omega
  refine ⟨u,?_,?_⟩
  ·subst hE'
   show (if E.β id []=E.β id []∧i * ob.sz+k < ob.rows.length * ob.sz then cur[i * ob.sz+k]? else _)=some u
   rw [if_pos ⟨rfl,hlt⟩]
   exact hu
  ·have h3:=hok.1
   simp only [Env.at,hk,if_true] at h3
   exact h3.mono hle.shut
theorem zl.freeze (t:Nat) {id sz lo len:Nat} {full:Bool} {ob:Ob} (ht:s.tmps[t]?= some (.sl id [] sz lo len full)) (hob:s.H[id]?= some ob) (hk:ob.kind=2) (hsz:ob.sz=sz) (hlen:lo+len<=ob.rows.length)
  (hno:∀ r ∈ ob.rows,∀ c ∈ r,zw c=true):
  zl B s ⟨s.tmps.set t (.lst (if full then 1 else 0) sz ((ob.rows.drop lo).take len)),s.H.modify id fun ob=>⟨ob.kind,ob.ty,ob.sz,ob.rows,ob.rows.length⟩⟩:=fun m w E a hs=>by
 subst hsz
 have hno':∀ i k c,cellAt ob.rows i k=some c->zw c=true:=fun i k c hc=>by
  unfold cellAt at hc
  cases hx:ob.rows[i]? with
  | none=>rw [hx] at hc;cases hc
  | some r=>rw [hx] at hc;exact hno r (List.mem_of_getElem? hx) c (List.mem_of_getElem? hc)
 obtain ⟨E',hle,hR,hnew,hβ,hKG0,hcells⟩:=hs.heap.base.freeze hob hk hno'
 have hgb:zy s.H id []=some (ob.sz,ob.rows):=by unfold zy;rw [hob];simp [hk,zS]
 have hrow:=(hs.heap.base.blk id ob [] _ _ hob hgb).row
 obtain ⟨y,hy,hl⟩:=hs.tmps.get ht
 have hnl:L E' (.lst (if full then 1 else 0) ob.sz ((ob.rows.drop lo).take len)) y:=by
  generalize hc:C.sl id [] ob.sz lo len full=c at hl
  cases hl with
  | sl id' hops' sz' lo' len' full' cap hn hlen' hf hf'=>
   cases hc
   have hrl:((ob.rows.drop lo).take len).length=len:=by simp;omega
   have hsub:∀ i k,cellAt ((ob.rows.drop lo).take len) i k=if i < len then cellAt ob.rows (lo+i) k else none:=by
    intro i k
    unfold cellAt
    rw [List.getElem?_take]
    split
    ·rw [List.getElem?_drop]
    ·rfl
   have ex:∀ i r k c,((ob.rows.drop lo).take len)[i]?= some r->r[k]?= some c->∃ u,E'.St (E.β id []) (lo * ob.sz+i * ob.sz+k)=some u∧L E'.shut c u:=by
    intro i r k c hr hc
    have hcc:cellAt ((ob.rows.drop lo).take len) i k=some c:=by unfold cellAt;rw [hr];exact hc
    rw [hsub] at hcc
    split at hcc
    ·obtain ⟨u,h1,h2⟩:=hcells _ _ c hcc
     exact ⟨u,by rw [<- Nat.add_mul];exact h1,h2⟩
    ·cases hcc
   have:=L.lst (E:=E') (if full then 1 else 0) ob.sz ((ob.rows.drop lo).take len) (E.β id []) (lo * ob.sz) cap (fun i k=>(E'.St (E.β id []) (lo * ob.sz+i * ob.sz+k)).getD undef) ?_ ?_ ?_ ?_ ?_
   ·rw [hrl] at this;exact this
   ·cases full with
    | false=>exact .inl rfl
    | true=>exact .inr ⟨rfl,by rw [hrl];exact hf rfl⟩
   ·rw [hrl];exact hlen'
   ·exact fun r hr=>hrow r (List.mem_of_mem_drop (List.mem_of_mem_take hr))
   ·intro i r k c hr hc
    obtain ⟨u,h1,h2⟩:=ex i r k c hr hc
    rw [h1];rfl
   ·intro i r k c hr hc
    obtain ⟨u,h1,h2⟩:=ex i r k c hr hc
    rw [h1];exact h2
  | _=>cases hc
 have hG:zL w E s.H w E' (s.H.modify id fun ob=>⟨ob.kind,ob.ty,ob.sz,ob.rows,ob.rows.length⟩):=by
  have hKG:∀ (id k:Nat),id < E.n->E'.G id k=E.G id k:=fun _ _ _=>by rw [hKG0]
  refine ⟨hle,hKG,rfl,rfl,rfl,Nat.le_refl _,fun _ _ _=>rfl,fun b o u hu=>?_,?_⟩
  ·rcases hnew b o u hu with h1 | h1
   ·exact .inl h1
   ·exact .inr (.inr ⟨id,[],_,hgb,h1.symm⟩)
  ·rintro b ⟨id',p,x,hx,rfl⟩
   right
   refine ⟨id',p,x,?_,by rw [hβ]⟩
   obtain ⟨ob',ho',hk',hg'⟩:=z6 hx
   rw [List.getElem?_modify] at ho'
   cases hx':s.H[id']? with
   | none=>rw [hx'] at ho';cases ho'
   | some ob0=>
    rw [hx'] at ho'
    simp only [Option.map_eq_map,Option.map_some,Option.some.injEq] at ho'
    unfold zy
    rw [hx']
    split at ho'
    ·subst ho';simp only [hk',if_true];exact hg'
    ·subst ho';simp only [hk',if_true];exact hg'
 have hk4:qj s.H (s.H.modify id fun ob=>⟨ob.kind,ob.ty,ob.sz,ob.rows,ob.rows.length⟩):=qj.modify _ _ _ fun ob' h'=>by
  rw [hob] at h'
  cases h'
  exact ⟨by rw [hk];decide,by show ob.kind≠4;rw [hk];decide⟩
 refine ⟨E',⟨⟨hR,Gro.step hs.heap hG hk4⟩,?_,hs.defers,by simpa using hs.base⟩,(hG.up hs.heap hk4).toB (by rw [hs.heap.n];exact hs.base)⟩
 have:=(hs.tmps.mono hle).set hnl t
 rw [x6 hy] at this
 exact this
end
end Go.Ab
namespace Go.Ab
def posOf:List Nat->Nat->Nat->Option Nat
 | [],_,_=>none
 | x::xs,i,id=>if x == id then some i else posOf xs (i+1) id
theorem q9:∀ {sel:List Nat} {k id i:Nat},posOf sel k id=some i->k<=i∧sel[i - k]?= some id
 | [],k,id,i,h=>by simp [posOf] at h
 | x::xs,k,id,i,h=>by
  unfold posOf at h
  split at h
  ·rename_i e
   cases h
   exact ⟨Nat.le_refl _,by simpa using e⟩
  ·obtain ⟨h1,h2⟩:=q9 h
   refine ⟨by omega,?_⟩
   rw [show i - k=(i - (k+1))+1 from by omega]
   simpa using h2
def xg (sel:List Nat):Nat->C->C
 | 0,_=>.za
 | k+1,c=>match c with
  | .ref id hops sz i j=>match posOf sel 0 id with
   | some id'=>.ref id' hops sz i j
   | none=>.za
  | .sl id hops sz lo len full=>match posOf sel 0 id with
   | some id'=>.sl id' hops sz lo len full
   | none=>.za
  | .mp id=>match posOf sel 0 id with
   | some id'=>.mp id'
   | none=>.za
  | .gl id sz rows=>match posOf sel 0 id with
   | some id'=>.gl id' sz rows
   | none=>.lst 0 sz rows
  | .ifc t c=>.ifc t (xg sel k c)
  | .rc r=>.rc r
  | .agg cs=>.agg (cs.map (xg sel k))
  | .tup cs=>.tup (cs.map (xg sel k))
  | .fn f first caps=>.fn f (first.map (xg sel k)) (caps.map (xg sel k))
  | .v x=>.v x
  | .lst o sz rows=>.lst o sz rows
  | .qv cells=>.qv cells
  | .un=>.un
  | .za=>.za
def Env.ren (E:Env) (sel:List Nat):Env:={ n:=sel.length,β:=fun i hops=>E.β ((sel[i]?).getD 0) hops,κ:=fun i hops=>E.κ ((sel[i]?).getD 0) hops,St:=E.St,G:=fun i k=>E.G ((sel[i]?).getD 0) k }
theorem Env.wy (E:Env) (sel:List Nat):E.shut.le (E.ren sel).shut:=⟨Nat.le_refl _,fun id hops hi=>absurd hi (Nat.not_lt_zero _),fun id hops hi=>absurd hi (Nat.not_lt_zero _),fun b o u hu=>hu,fun id _ _ hi=>absurd hi (Nat.not_lt_zero _)⟩
theorem LL.ren {E E':Env} {f:C->C} {cs:List C} {ys:List Value} (h:LL E cs ys) (hf:∀ c y,L E c y->L E' (f c) y):LL E' (cs.map f) ys:=
 ⟨by simpa using h.1,fun i c y e1 e2=>by
  rw [List.getElem?_map] at e1
  cases hx:cs[i]? with
  | none=>rw [hx] at e1;cases e1
  | some c0=>rw [hx] at e1;cases e1;exact hf c0 y (h.2 i c0 y hx e2)⟩
theorem L.ren {E:Env} (sel:List Nat):∀ (k:Nat) {c:C} {y:Value},L E c y->L (E.ren sel) (xg sel k c) y:=by
 intro k
 induction k with
 | zero=>intro c y h;exact .za y
 | succ k ih=>
  intro c y h
  have pos:∀ {id i},posOf sel 0 id=some i->i < sel.length∧(sel[i]?).getD 0=id:=fun {id i} e=>by
   obtain ⟨_,h2⟩:=q9 e
   rw [Nat.sub_zero] at h2
   exact ⟨(List.getElem?_eq_some_iff.1 h2).1,by rw [h2];rfl⟩
  cases h with
  | v x hx=>exact .v _ hx
  | lst o sz rows b off cap us ho hc hsz hst hL=>
   exact .lst o sz rows b off cap us ho hc hsz hst (fun i r k c e1 e2=>(hL i r k c e1 e2).mono (E.wy sel))
  | qP o sz ho a=>exact .qP o sz ho a
  | qv cells b off us hst hL=>
   exact .qv cells b off us hst (fun k c e1=>(hL k c e1).mono (E.wy sel))
  | ref id hops sz i j hn=>
   unfold xg
   dsimp only
   split
   ·rename_i id' e
    obtain ⟨h1,h2⟩:=pos e
    have:=L.ref (E:=E.ren sel) id' hops sz i j h1
    simp only [Env.ren,h2] at this
    exact this
   ·exact .za _
  | sl id hops sz lo len full cap hn hlen hf hf'=>
   unfold xg
   dsimp only
   split
   ·rename_i id' e
    obtain ⟨h1,h2⟩:=pos e
    have:=L.sl (E:=E.ren sel) id' hops sz lo len full cap h1 hlen hf (by simp only [Env.ren,h2];exact hf')
    simp only [Env.ren,h2] at this
    exact this
   ·exact .za _
  | mp id hn=>
   unfold xg
   dsimp only
   split
   ·rename_i id' e
    obtain ⟨h1,h2⟩:=pos e
    have:=L.mp (E:=E.ren sel) id' h1
    simp only [Env.ren,h2] at this
    exact this
   ·exact .za _
  | agg cs ys h1 h2 h3=>
   have:=LL.ren (f:=xg sel k) (E':=E.ren sel) (cs:=cs) (ys:=ys.toList) ⟨by simpa using h1,fun i c y e1 e2=>h2 i c y e1 (by simpa using e2)⟩ (fun c y hl=>ih hl)
   exact .agg _ ys (by simpa using this.1) (fun i c y e1 e2=>this.2 i c y e1 (by simpa using e2)) h3
  | tup cs ys h1 h2=>
   have:=LL.ren (f:=xg sel k) (E':=E.ren sel) (cs:=cs) (ys:=ys.toList) ⟨by simpa using h1,fun i c y e1 e2=>h2 i c y e1 (by simpa using e2)⟩ (fun c y hl=>ih hl)
   exact .tup _ ys (by simpa using this.1) (fun i c y e1 e2=>this.2 i c y e1 (by simpa using e2))
  | fn f first caps ys zs h1 h2 h3 h4=>
   have t1:=LL.ren (f:=xg sel k) (E':=E.ren sel) (cs:=first) (ys:=ys.toList) ⟨by simpa using h1,fun i c y e1 e2=>h3 i c y e1 (by simpa using e2)⟩ (fun c y hl=>ih hl)
   have t2:=LL.ren (f:=xg sel k) (E':=E.ren sel) (cs:=caps) (ys:=zs.toList) ⟨by simpa using h2,fun i c y e1 e2=>h4 i c y e1 (by simpa using e2)⟩ (fun c y hl=>ih hl)
   exact .fn f _ _ ys zs (by simpa using t1.1) (by simpa using t2.1) (fun i c y e1 e2=>t1.2 i c y e1 (by simpa using e2)) (fun i c y e1 e2=>t2.2 i c y e1 (by simpa using e2))
  | un=>exact .un
  | za y=>exact .za y
  | gl id sz rows y hn hg hl=>
   unfold xg
   dsimp only
   split
   ·rename_i id' e
    obtain ⟨h1,h2⟩:=pos e
    exact .gl id' sz rows y h1 (by simp only [Env.ren,h2];exact hg) (hl.mono (E.wy sel))
   ·have h3:E.shut.le (E.ren sel):=⟨Nat.zero_le _,fun id hops hi=>absurd hi (Nat.not_lt_zero _),fun id hops hi=>absurd hi (Nat.not_lt_zero _),fun b o u hu=>hu,fun id _ _ hi=>absurd hi (Nat.not_lt_zero _)⟩
    exact hl.mono h3
  | ifc t c y hl=>exact .ifc t _ y (ih hl)
theorem zdc (sel:List Nat) (k:Nat) {c:C} (h:zw c=true):zw (xg sel k c)=true:=by
 cases k with
 | zero=>rfl
 | succ k=>
  cases c with
  | lst o sz rows=>exact h
  | ref id hops sz i j=>unfold xg;dsimp only;split <;> rfl
  | sl id hops sz lo len full=>unfold xg;dsimp only;split <;> rfl
  | mp id=>unfold xg;dsimp only;split <;> rfl
  | gl id sz rows=>unfold xg;dsimp only;split <;> rfl
  | _=>rfl
def y5 (sel:List Nat) (ob:Ob):Ob:=
 match ob with
 | ⟨kind,ty,sz,rows,fz⟩=>⟨kind,ty,sz,match kind with
  | 2=>rows
  | 4=>rows
  | _=>rows.map fun r=>r.map (xg sel 9),fz⟩
def dead:Ob:=⟨0,0,0,[],0⟩
def jX (sel:List Nat) (H:ze):ze:=sel.map fun id=>y5 sel ((H[id]?).getD dead)
def xB:List Nat->Bool
 | []=>true
 | x::xs=>!(xs.any (· == x)) && xB xs
theorem xv:∀ {l:List Nat},xB l=true->∀ (i j x:Nat),l[i]?= some x->l[j]?= some x->i=j
 | [],_,i,j,x,h,_=>by simp at h
 | y::l,h,i,j,x,h1,h2=>by
  simp only [xB,Bool.and_eq_true,Bool.not_eq_true',List.any_eq_false] at h
  cases i with
  | zero=>
   cases j with
   | zero=>rfl
   | succ j=>
    simp at h1 h2
    subst h1
    exact absurd (by simp) (h.1 _ (List.mem_of_getElem? h2))
  | succ i=>
   cases j with
   | zero=>
    simp at h1 h2
    subst h2
    exact absurd (by simp) (h.1 _ (List.mem_of_getElem? h1))
   | succ j=>
    simp at h1 h2
    rw [xv h.2 i j x h1 h2]
theorem L.zj0 {E:Env} {c:C} {y:Value} (h:L E c y) (hc:vN c=true):L E.shut c y:=by
 cases h with
 | agg cs ys h1 h2 h3=>
  refine .agg cs ys h1 (fun i c y e1 e2=>(h2 i c y e1 e2).xn ?_) h3
  exact List.all_eq_true.1 (show cs.all jz=true from hc) _ (List.mem_of_getElem? e1)
 | v x hx=>exact (L.v (E:=E) _ hx).xn hc
 | lst o sz rows b off cap us ho h2 hsz hst hL=>exact (L.lst (E:=E) o sz rows b off cap us ho h2 hsz hst hL).xn hc
 | qP o sz ho a=>exact (L.qP (E:=E) o sz ho a).xn hc
 | qv cells b off us hst hL=>exact (L.qv (E:=E) cells b off us hst hL).xn hc
 | fn f first caps ys zs h1 h2 h3 h4=>exact (L.fn (E:=E) f first caps ys zs h1 h2 h3 h4).xn hc
 | _=>simp [vN,jz,wG] at hc
theorem LL.closed {E E':Env} {t:List C} {ys:List Value} (h:LL E t ys) (hc:t.all vN=true) (hs:E.shut.le E'):LL E' t ys:=
 ⟨h.1,fun i c y e1 e2=>((h.2 i c y e1 e2).zj0 (List.all_eq_true.1 hc _ (List.mem_of_getElem? e1))).mono hs⟩
section
variable {B:Nat}
theorem qV {sel:List Nat} {H:ze} {i:Nat} {ob':Ob} (h:(jX sel H)[i]?= some ob') (zD:sel.all (fun id=>Nat.blt id H.length)=true):∃ id ob,sel[i]?= some id∧H[id]?= some ob∧ob'=y5 sel ob:=by
 unfold jX at h
 rw [List.getElem?_map] at h
 cases hx:sel[i]? with
 | none=>rw [hx] at h;cases h
 | some id=>
  rw [hx] at h
  have hlt:id < H.length:=by
   have:=List.all_eq_true.1 zD id (List.mem_of_getElem? hx)
   simpa [Nat.blt_eq] using this
  have h2:H[id]?= some H[id]:=by simp [hlt]
  simp only [Option.map_some,Option.some.injEq,h2,Option.getD_some] at h
  exact ⟨id,H[id],rfl,h2,h.symm⟩
theorem xL {sel:List Nat} {H:ze} {i:Nat} {hops:List Hop} {sz:Nat} {rows:List (List C)} (zD:sel.all (fun id=>Nat.blt id H.length)=true) (hfl:jd H=true) (h:zy (jX sel H) i hops=some (sz,rows)):
  ∃ id ob rows0,sel[i]?= some id∧H[id]?= some ob∧zy H id hops=some (sz,rows0)∧((ob.kind=2∧rows=rows0)∨(ob.kind=1∧hops=[]∧rows=rows0.map (fun r=>r.map (xg sel 9))∧∀ r ∈ rows0,∀ c ∈ r,zw c=true)):=by
 obtain ⟨ob',ho',hk',hg'⟩:=z6 h
 obtain ⟨id,ob,h1,h2,rfl⟩:=qV ho' zD
 obtain ⟨kind,ty,sz0,rows0,fz⟩:=ob
 rcases hk' with hk | hk
 ·have hk:kind=1:=hk
  subst hk
  have hno:∀ r ∈ rows0,∀ c ∈ r,zw c=true:=by
   have:=List.all_eq_true.1 hfl _ (List.mem_of_getElem? h2)
   dsimp only at this
   simpa [List.all_eq_true] using this
  have hg2:xb sz0 (rows0.map fun r=>r.map (xg sel 9)) hops=some (sz,rows):=hg'
  obtain ⟨rfl,e⟩:=xN (fun i k c hc=>by
   unfold cellAt at hc
   rw [List.getElem?_map] at hc
   cases hx:rows0[i]? with
   | none=>rw [hx] at hc;cases hc
   | some r=>
    rw [hx] at hc
    simp only [Option.map_some,Option.bind_some,List.getElem?_map] at hc
    cases hy:r[k]? with
    | none=>rw [hy] at hc;cases hc
    | some c0=>
     rw [hy] at hc
     cases hc
     exact zdc sel 9 (hno r (List.mem_of_getElem? hx) c0 (List.mem_of_getElem? hy))) hg2
  cases e
  exact ⟨id,_,rows0,h1,h2,by unfold zy;rw [h2];simp [zS],.inr ⟨rfl,rfl,rfl,hno⟩⟩
 ·have hk:kind=2:=hk
  subst hk
  exact ⟨id,_,rows,h1,h2,by unfold zy;rw [h2];exact (show xb sz0 rows0 hops=_ from hg'),.inl ⟨rfl,rfl⟩⟩
theorem zB.ren {w:World} {E:Env} {H:ze} (hh:zB w E H) (sel:List Nat) (zD:sel.all (fun id=>Nat.blt id H.length)=true) (hnd:xB sel=true) (hfl:jd H=true):zB w (E.ren sel) (jX sel H) where
 n:=by simp [Env.ren,jX]
 blk i ob' hops sz rows hob' hx:=by
  obtain ⟨id,ob,rows0,h1,h2,h3,h4⟩:=xL zD hfl hx
  obtain ⟨id2,ob2,e1,e2,rfl⟩:=qV hob' zD
  rw [h1] at e1
  cases e1
  rw [h2] at e2
  cases e2
  have hb:=hh.blk id ob hops sz rows0 h2 h3
  obtain ⟨cur,e,hg,hcs,hcell⟩:=hb.blk
  have hβ:∀ hops,(E.ren sel).β i hops=E.β id hops:=fun hops=>by simp [Env.ren,h1]
  have hκ:∀ hops,(E.ren sel).κ i hops=E.κ id hops:=fun hops=>by simp [Env.ren,h1]
  have hkind:(y5 sel ob).kind=ob.kind:=by obtain ⟨kind,ty,sz,rows,fz⟩:=ob;rfl
  rw [hkind]
  rcases h4 with ⟨hk,rfl⟩ | ⟨hk,rfl,rfl,hno⟩
  ·refine ⟨by rw [hκ];exact hb.len,hb.row,cur,e,by rw [hβ];exact hg,by rw [hκ];exact hcs,?_⟩
   intro i' k c hc
   obtain ⟨u,hu,ho⟩:=hcell i' k c hc
   refine ⟨u,hu,?_⟩
   unfold zV at ho ⊢
   split at ho
   ·rw [hβ,hκ];exact ho
   ·refine ⟨?_,ho.2⟩
    have h5:=ho.1
    simp only [Env.at,hk,if_true] at h5 ⊢
    exact h5.mono (E.wy sel)
  ·refine ⟨by rw [hκ];simpa using hb.len,?_,cur,e,by rw [hβ];exact hg,by rw [hκ];exact hcs,?_⟩
   ·intro r hr
    obtain ⟨r0,h5,rfl⟩:=List.mem_map.1 hr
    simpa using hb.row r0 h5
   ·intro i' k c hc
    unfold cellAt at hc
    rw [List.getElem?_map] at hc
    cases hx1:rows0[i']? with
    | none=>rw [hx1] at hc;cases hc
    | some r=>
     rw [hx1] at hc
     simp only [Option.map_some,Option.bind_some,List.getElem?_map] at hc
     cases hy:r[k]? with
     | none=>rw [hy] at hc;cases hc
     | some c0=>
      rw [hy] at hc
      cases hc
      obtain ⟨u,hu,ho⟩:=hcell i' k c0 (by unfold cellAt;rw [hx1];exact hy)
      have hn0:=hno r (List.mem_of_getElem? hx1) c0 (List.mem_of_getElem? hy)
      rw [zV.loose hn0] at ho
      refine ⟨u,hu,(zV.loose (zdc sel 9 hn0)).2 ⟨?_,ho.2⟩⟩
      have h5:=ho.1
      have hk2:¬ob.kind=2:=by rw [hk];decide
      simp only [Env.at,if_neg hk2] at h5 ⊢
      exact h5.ren sel 9
 inj i hops i' hops' x y hx hy he:=by
  obtain ⟨id,ob,rows0,h1,h2,h3,_⟩:=xL zD hfl (sz:=x.1) (rows:=x.2) (by simpa using hx)
  obtain ⟨id',ob',rows0',h1',h2',h3',_⟩:=xL zD hfl (sz:=y.1) (rows:=y.2) (by simpa using hy)
  simp only [Env.ren,h1,h1',Option.getD_some] at he
  obtain ⟨rfl,rfl⟩:=hh.inj id hops id' hops' _ _ h3 h3' he
  exact ⟨xv hnd _ _ _ h1 h1',rfl⟩
 zG:=hh.zG
 sep i hops x o u hx hu:=by
  obtain ⟨id,ob,rows0,h1,h2,h3,_⟩:=xL zD hfl (sz:=x.1) (rows:=x.2) (by simpa using hx)
  simp only [Env.ren,h1,Option.getD_some] at hu
  obtain ⟨e1,ob2,e2,e3⟩:=hh.sep id hops _ o u h3 hu
  rw [h2] at e2
  cases e2
  refine ⟨e1,y5 sel ob,?_,?_⟩
  ·unfold jX
   rw [List.getElem?_map,h1]
   simp [h2]
  ·obtain ⟨kind,ty,sz,rows,fz⟩:=ob;exact e3
 ty i ob' hob' hk:=by
  obtain ⟨id,ob,h1,h2,rfl⟩:=qV hob' zD
  obtain ⟨kind,ty,sz,rows,fz⟩:=ob
  obtain ⟨cur,hc⟩:=hh.ty id _ h2 hk
  exact ⟨cur,by simp only [Env.ren,h1,Option.getD_some];exact hc⟩
 fz i ob' hob':=by
  obtain ⟨id,ob,h1,h2,rfl⟩:=qV hob' zD
  obtain ⟨kind,ty,sz,rows,fz⟩:=ob
  have:=hh.fz id _ h2
  dsimp only [y5] at this ⊢
  split
  ·exact this
  ·exact this
  ·simpa using this
def zeZ:Nat->Nat->List Nat->Bool
 | 0,_,_=>true
 | n+1,k,x::xs=>x == k && zeZ n (k+1) xs
 | _+1,_,[]=>false
theorem zbQ:∀ {n k:Nat} {l:List Nat},zeZ n k l=true->n<=l.length∧∀ i,i < n->l[i]?= some (k+i)
 | 0,k,l,h=>⟨Nat.zero_le _,fun i hi=>absurd hi (Nat.not_lt_zero _)⟩
 | n+1,k,x::xs,h=>by
  simp only [zeZ,Bool.and_eq_true,beq_iff_eq] at h
  obtain ⟨h1,h2⟩:=zbQ h.2
  refine ⟨by simpa using h1,fun i hi=>?_⟩
  cases i with
  | zero=>simp [h.1]
  | succ i=>simp [h2 i (by omega)];omega
 | n+1,k,[],h=>by simp [zeZ] at h
theorem xh (sel:List Nat) (ob:Ob):(y5 sel ob).kind=ob.kind∧(y5 sel ob).ty=ob.ty∧(y5 sel ob).sz=ob.sz∧(y5 sel ob).rows.length=ob.rows.length:=by
 obtain ⟨kind,ty,sz,rows,fz⟩:=ob
 refine ⟨rfl,rfl,rfl,?_⟩
 unfold y5
 dsimp only
 split <;> simp
theorem zO.ren {E:Env} {H:ze} {sel:List Nat} (zD:sel.all (fun id=>Nat.blt id H.length)=true) {i b:Nat} (h:zO (E.ren sel) (jX sel H) i b):∃ id,sel[i]?= some id∧zO E H id b:=by
 obtain ⟨ob',cap,h1,h2,h3,h4⟩:=h
 obtain ⟨id,ob,e1,e2,rfl⟩:=qV h1 zD
 obtain ⟨l1,l2,l3,l4⟩:=xh sel ob
 rw [l4] at h3 h4
 simp only [Env.ren,e1,Option.getD_some] at h3
 exact ⟨id,e1,ob,cap,e2,by rw [<- l1];exact h2,h3,h4⟩
theorem zeh {sel:List Nat} {ob:Ob} (h:ob.kind=4):y5 sel ob=ob:=by
 obtain ⟨kind,ty,sz,rows,fz⟩:=ob
 cases h
 rfl
theorem qh.ren {H:ze} {sel:List Nat} (zD:sel.all (fun id=>Nat.blt id H.length)=true) {i b:Nat} (h:qh (jX sel H) i b):∃ id,sel[i]?= some id∧qh H id b:=by
 obtain ⟨ob',r,t,h1,h2,h3,h4⟩:=h
 obtain ⟨id,ob,e1,e2,rfl⟩:=qV h1 zD
 have hk4:ob.kind=4:=by rw [<- (xh sel ob).1];exact h2
 rw [zeh hk4] at h3 h4
 exact ⟨id,e1,ob,r,t,e2,hk4,h3,h4⟩
theorem z5.ren {E:Env} {H:ze} {sel:List Nat} (zD:sel.all (fun id=>Nat.blt id H.length)=true) (hfl:jd H=true) {b:Nat} (h:z5 (E.ren sel) (jX sel H) b):z5 E H b:=by
 obtain ⟨i,hops,⟨sz,rows⟩,hx,rfl⟩:=h
 obtain ⟨id,ob,rows0,h3,h4,h5,_⟩:=xL zD hfl hx
 exact ⟨id,hops,_,h5,by simp [Env.ren,h3]⟩
theorem zH.ren {w:World} {E:Env} {H:ze} (hh:zH w E H) (sel:List Nat) (zD:sel.all (fun id=>Nat.blt id H.length)=true) (hnd:xB sel=true) (hfl:jd H=true):zH w (E.ren sel) (jX sel H) where
 base:=hh.base.ren sel zD hnd hfl
 gro:={
  val:=fun i ob' h1 h2=>by
   obtain ⟨id,ob,e1,e2,rfl⟩:=qV h1 zD
   obtain ⟨l1,l2,l3,l4⟩:=xh sel ob
   rw [l4]
   simp only [Env.ren,e1,Option.getD_some]
   exact hh.gro.val id ob e2 (by rw [<- l1];exact h2)
  blk:=fun i b ob' h1 h2=>by
   obtain ⟨id,e0,h3⟩:=h1.ren zD
   obtain ⟨id',ob,e1,e2,rfl⟩:=qV h2 zD
   rw [e0] at e1
   cases e1
   obtain ⟨l1,l2,l3,l4⟩:=xh sel ob
   rw [l2,l3,l4]
   simp only [Env.ren,e0,Option.getD_some]
   exact hh.gro.blk id b ob h3 e2
  sep:=fun i b h1 h2=>by
   obtain ⟨id,e0,h3⟩:=h1.ren zD
   exact hh.gro.sep id b h3 (h2.ren zD hfl)
  inj:=fun i i' b h1 h2=>by
   obtain ⟨id,e0,h3⟩:=h1.ren zD
   obtain ⟨id',e1,h4⟩:=h2.ren zD
   obtain rfl:=hh.gro.inj id id' b h3 h4
   exact xv hnd _ _ _ e0 e1
  st:=fun i b ob' o u h1 h2 h3=>by
   obtain ⟨id,e0,h4⟩:=h1.ren zD
   obtain ⟨id',ob,e1,e2,rfl⟩:=qV h2 zD
   rw [e0] at e1
   cases e1
   obtain ⟨l1,l2,l3,l4⟩:=xh sel ob
   rw [l3,l4]
   exact hh.gro.st id b ob o u h4 e2 h3
  top:=fun i ob' k u h1 h2 h3=>by
   obtain ⟨id,ob,e1,e2,rfl⟩:=qV h1 zD
   obtain ⟨l1,l2,l3,l4⟩:=xh sel ob
   rw [l4]
   simp only [Env.ren,e1,Option.getD_some] at h3
   exact hh.gro.top id ob k u e2 (by rw [<- l1];exact h2) h3
  lop:=fun i ob' r t h1 h2 h3=>by
   obtain ⟨id,ob,e1,e2,rfl⟩:=qV h1 zD
   have hk4:ob.kind=4:=by rw [<- (xh sel ob).1];exact h2
   rw [zeh hk4] at h3
   have:=List.all_eq_true.1 hfl ob (List.mem_of_getElem? e2)
   rw [hk4,h3.2,h3.1] at this
   obtain ⟨p1,p2⟩:=hh.gro.lop id ob r t e2 hk4 h3
   have ht:t.all vN=true:=by simpa using this
   rw [zeh hk4]
   exact ⟨p1,p2.map fun ys hl=>hl.closed ht ⟨Nat.zero_le _,fun _ _ h=>absurd h (Nat.not_lt_zero _),fun _ _ h=>absurd h (Nat.not_lt_zero _),fun _ _ _ h=>h,fun _ _ _ h=>absurd h (Nat.not_lt_zero _)⟩⟩
  yg:=fun i i' b h1 h2=>by
   obtain ⟨id,e0,h3⟩:=h1.ren zD
   obtain ⟨id',e1,h4⟩:=h2.ren zD
   obtain rfl:=hh.gro.yg id id' b h3 h4
   exact xv hnd _ _ _ e0 e1 }
theorem zl.ren (sel m:List Nat) (t:List C) (H:ze) (hB:zeZ B 0 sel=true) (zD:sel.all (fun id=>Nat.blt id H.length)=true) (hnd:xB sel=true) (hfl:jd H=true):zl B ⟨t,H⟩ ⟨(zbZ m 0 t).map (xg sel 9),jX sel H⟩:=fun mm w E a hs=>by
 obtain ⟨h1,h2⟩:=zbQ hB
 refine ⟨E.ren sel,⟨hs.heap.ren sel zD hnd hfl,((zaj m t 0).LL hs.tmps).ren (fun c y hl=>hl.ren sel 9),hs.defers,by simpa [jX] using h1⟩,
  ⟨⟨fun id hops hi=>by simp [Env.ren,h2 id hi],fun id hops hi=>by simp [Env.ren,h2 id hi],fun _ _ _ h=>h,fun id k u hi hu=>by simpa [Env.ren,h2 id hi] using hu⟩,rfl,rfl,rfl,Nat.le_refl _,fun _ _ _=>rfl,fun b o u hu=>.inl hu,?_⟩⟩
 rintro b (hb | ⟨i,hb | hb⟩)
 ·exact .inr (.inl (hb.ren zD hfl))
 ·obtain ⟨id,_,h3⟩:=hb.ren zD
  exact .inr (.inr ⟨id,.inl h3⟩)
 ·obtain ⟨id,_,h3⟩:=hb.ren zD
  exact .inr (.inr ⟨id,.inr h3⟩)
end
end Go.Ab
namespace Go.Ab
theorem WC.trans {c c' c'':C} (h:WC c c') (h':WC c' c''):WC c c'':=fun E y hl=>h' E y (h E y hl)
theorem WC.nil (sz sz':Nat):WC (.lst 1 sz []) (.lst 0 sz' []):=(WC.none 1 sz sz').trans (WC.share 1 sz' [])
theorem WCs.at:∀ {cs:List C} {i:Nat} {c c':C},cs[i]?= some c->WC c c'->WCs cs (cs.set i c')
 | [],i,c,c',h,hw=>by simp at h
 | x::xs,0,c,c',h,hw=>by simp at h;subst h;exact .cons hw (WCs.refl xs)
 | x::xs,i+1,c,c',h,hw=>.cons (.refl x) (WCs.at (by simpa using h) hw)
theorem zl.cell {B:Nat} {s:S} (i:Nat) {c c':C} (h:s.tmps[i]?= some c) (hw:WC c c'):zl B s ⟨s.tmps.set i c',s.H⟩:=zl.tmps (WCs.at h hw)
end Go.Ab
namespace Go.Ab
def cov (t2:List C):List C->Prop:=
 List.rec (motive:=fun _=>List C->Prop) (fun t1=>match t1 with | []=>True | _::_=>False)
  (fun c' _ ih t1=>match t1 with
   | []=>False
   | c::cs=>match c' with
    | .za=>ih cs
    | c'=>c=c'∧ih cs) t2
theorem zdG:∀ {t2 t1:List C},cov t2 t1->WCs t1 t2
 | [],[],_=>.nil
 | [],_::_,h=>h.elim
 | _::_,[],h=>h.elim
 | c'::t2,c::t1,h=>by
  cases c' with
  | za=>exact .cons (.za c) (zdG (t2:=t2) (t1:=t1) h)
  | _=>
   obtain ⟨h1,h2⟩:=h
   exact .cons (h1 ▸ .refl c) (zdG (t2:=t2) (t1:=t1) h2)
section
variable {P:Program} {B:Nat}
theorem zl.cov {t1 t2:List C} {H:ze} (h:Ab.cov t2 t1):zl B ⟨t1,H⟩ ⟨t2,H⟩:=zl.tmps (zdG h)
theorem zl.zi4 (n:Nat) {t1 t2:List C} {H1 H2:ze} (h:Ab.cov t2 t1) (hB:Nat.ble B n=true) (hn:Nat.ble n H1.length=true) (ht:t2.all (j5 n 9)=true) (hr:ja n (H1.take n)=true) (hH:H1.take n=H2):zl B ⟨t1,H1⟩ ⟨t2,H2⟩:=by
 subst hH
 exact (zl.cov h).trans (zl.drop (s:=⟨t2,H1⟩) n hB hn ht hr)
theorem zl.zhh {s:S} (t:Nat) {id sz len ty:Nat} {full:Bool} {rows:List (List C)} (ht:s.tmps[t]?= some (.sl id [] sz 0 len full)) (hob:s.H[id]?= some ⟨2,ty,sz,rows,0⟩) (hlen:len=rows.length)
  (hno:∀ r ∈ rows,∀ c ∈ r,zw c=true):
  zl B s ⟨s.tmps.set t (.lst (if full then 1 else 0) sz rows),s.H.set id ⟨2,ty,sz,rows,rows.length⟩⟩:=by
 have:=zl.freeze (B:=B) t ht hob rfl rfl (by simp [hlen]) hno
 rw [xe _ hob] at this
 simpa [hlen] using this
theorem zH.zaK {w:World} {E:Env} {H:ze} (hh:zH w E H) {id sz len ty:Nat} {full:Bool} {rows:List (List C)} {y:Value} (hl:L E (.sl id [] sz 0 len full) y) (hob:H[id]?= some ⟨2,ty,sz,rows,0⟩) (hlen:len=rows.length)
  (hno:∀ r ∈ rows,∀ c ∈ r,zw c=true):
  ∃ E1,zH w E1 (H.set id ⟨2,ty,sz,rows,rows.length⟩)∧L E1 (.lst (if full then 1 else 0) sz rows) y∧Grow w E H w E1 (H.set id ⟨2,ty,sz,rows,rows.length⟩):=by
 obtain ⟨E1,hs,g⟩:=zl.zhh (B:=H.length) (s:=⟨[.sl id [] sz 0 len full],H⟩) 0 rfl hob hlen hno 0 w E ⟨#[y],[]⟩ ⟨hh,LL.one hl,Nat.zero_le _,Nat.le_refl _⟩
 have hn:=hs.heap.n
 refine ⟨E1,hs.heap,hs.tmps.cons_inv.1,⟨⟨by rw [hn,hh.n];simp,fun id hops hi=>g.le.β id hops (by rw [<- hh.n];exact hi),fun id hops hi=>g.le.κ id hops (by rw [<- hh.n];exact hi),g.le.St,fun id k u hi=>g.le.G id k u (by rw [<- hh.n];exact hi)⟩,
  g.os,g.tape,g.output,g.size,g.frame,g.qs,g.own⟩⟩
theorem zl.zhi {s:S} (vid k:Nat) {id sz len ty vty vsz fz:Nat} {full:Bool} {r:List C} {rows:List (List C)} (hv:s.H[vid]?= some ⟨1,vty,vsz,[r],fz⟩) (hk:r[k]?= some (.sl id [] sz 0 len full)) (hob:s.H[id]?= some ⟨2,ty,sz,rows,0⟩) (hlen:len=rows.length)
  (hno:∀ r ∈ rows,∀ c ∈ r,zw c=true) (hr:r.all zw=true) (hr':(r.set k (.lst (if full then 1 else 0) sz rows)).all zw=true):
  zl B s ⟨s.tmps,(s.H.set id ⟨2,ty,sz,rows,rows.length⟩).set vid ⟨1,vty,vsz,[r.set k (.lst (if full then 1 else 0) sz rows)],fz⟩⟩:=fun m w E a hs=>by
 have hgb:zy s.H vid []=some (vsz,[r]):=by unfold zy;rw [hv];simp [zS]
 obtain ⟨cur,e,h3,h4,h5⟩:=(hs.heap.base.blk _ _ _ _ _ hv hgb).blk
 obtain ⟨u,hu,ho⟩:=h5 0 k _ (jM.2 ⟨rfl,hk⟩)
 rw [zV.loose rfl] at ho
 have hl:L E (.sl id [] sz 0 len full) u:=by simpa [Env.at] using ho.1
 obtain ⟨E1,hh1,hl1,g1⟩:=hs.heap.zaK hl hob hlen hno
 have hne:vid≠id:=by rintro rfl;rw [hv] at hob;cases hob
 have hob1:(s.H.set id ⟨2,ty,sz,rows,rows.length⟩)[vid]?= some ⟨1,vty,vsz,[r],fz⟩:=by rw [List.getElem?_set,if_neg (Ne.symm hne)];exact hv
 have hβ:E1.β vid []=E.β vid []:=g1.le.β vid [] (by rw [hs.heap.n];exact (List.getElem?_eq_some_iff.1 hv).1)
 have hcu:w.cell? ⟨E1.β vid [],k,none⟩=some u:=by
  unfold World.cell?
  rw [hβ,h3]
  simpa using hu
 obtain ⟨hR,g2⟩:=hh1.zce hob1 (r':=r.set k (.lst (if full then 1 else 0) sz rows)) (by simp) hr hr' fun j c c' v e1 e2 hl' hv=>by
  rw [List.getElem?_set] at e2
  split at e2
  ·rename_i e
   subst e
   rw [hcu] at hv
   cases hv
   split at e2
   ·cases e2;exact hl1
   ·cases e2
  ·rw [e1] at e2
   cases e2
   exact hl'
 have g:=g1.trans g2
 exact ⟨E1,⟨hR,hs.tmps.mono g.le,hs.defers.grow hs.heap g,by have:=hs.base;simp;omega⟩,g.toB (by rw [hs.heap.n];exact hs.base)⟩
theorem qe.zfW {f:FuncId} {args:List C} {r:C} (h:qe P f [] args fun c _=>jG 0 9 c=r):zb P f [] args r []:=fun w E vs hh hl=>by
 refine (h w E vs hh hl).mono ?_
 rintro e w' ⟨c,H',v,E',rfl,rfl,h1,h2,g⟩
 have h3:=h1.drop 0 (Nat.zero_le _) (by simp [ja])
 rw [List.take_zero] at h3
 have hn:E.n=0:=hh.n
 exact ⟨v,E'.cut 0,rfl,h3,h2.low 0 9,⟨⟨by rw [hn];exact Nat.zero_le _,fun id hops hi=>by rw [hn] at hi;omega,fun id hops hi=>by rw [hn] at hi;omega,g.le.St,fun id k u hi=>by rw [hn] at hi;omega⟩,g.os,g.tape,g.output,g.size,g.frame,g.qs,
  fun b h=>absurd h qz.none⟩⟩
theorem zb.zm {f:FuncId} {fn:Func} {c:Code} {args:List C} {r:C} (hf:P.funcs[f]?= some fn) (hb:fn.body=some c)
  (h:wpA P 0 c (entry fn args) [] fun ex t1 H1=>(ex=.ret∨ex=.normal)∧∃ s2,zl 0 ⟨t1,H1⟩ s2∧(yx P fn s2).map (jG 0 9)=some r):zb P f [] args r []:=by
 refine qe.zfW (qe.x4 (H:=[]) hf hb ((qx h).mono fun ex s1 ⟨hex,s2,hw,h2⟩=>?_))
 cases h3:yx P fn s2 with
 | none=>rw [h3] at h2;cases h2
 | some r0=>
  rw [h3] at h2
  cases h2
  exact ⟨hex,s2,r0,hw,h3,rfl⟩
theorem zM.seq {c:Code} {t:List C} {H:ze} {K:Exit->List C->ze->Prop} (N:Nat) (T:Nat->List C) (Hp:Nat->ze) (R:Nat->Prop) (h0:zl B ⟨t,H⟩ ⟨T 0,Hp 0⟩) (r0:R 0)
  (step:∀ k,k < N->R k->wpA P B c (T k) (Hp k) fun e t1 H1=>(e=.normal∧zl B ⟨t1,H1⟩ ⟨T (k+1),Hp (k+1)⟩∧R (k+1))∨(e≠.normal∧K e t1 H1))
  (done:R N->wpA P B c (T N) (Hp N) fun e t1 H1=>e≠.normal∧K e t1 H1):
  kK P B c t H K:=by
 have key:∀ n k,k+n=N->R k->vi P B c (n+1) ⟨T k,Hp k⟩ fun ex s=>K ex s.tmps s.H:=by
  intro n
  induction n with
  | zero=>
   intro k hk hr
   obtain rfl:k=N:=by omega
   refine .step ((qx (done hr)).mono fun ex s1 ⟨hne,hK⟩=>?_)
   cases ex with
   | normal=>exact absurd rfl hne
   | _=>exact hK
  | succ n ih=>
   intro k hk hr
   refine .step ((qx (step k (by omega) hr)).post fun ex s1 h1=>?_)
   rcases h1 with ⟨rfl,hw,hr'⟩ | ⟨hne,hK⟩
   ·exact ⟨_,hw,(ih (k+1) (by omega) hr':vi P B c (n+1) _ _)⟩
   ·refine ⟨s1,.refl s1,?_⟩
    cases ex with
    | normal=>exact absurd rfl hne
    | _=>exact hK
 exact ⟨.pre h0 ⟨N+1,key N 0 (by omega) r0⟩⟩
end
end Go.Ab
namespace Go.Ab
section
variable {P:Program} {B:Nat}
structure LoopN (P:Program) (B:Nat) (c:Code) (n:Nat) (t:List C) (H:ze) (K:Exit->List C->ze->Prop):Prop where
 out:vi P B c n ⟨t,H⟩ fun ex s=>K ex s.tmps s.H
theorem LoopN.step {c:Code} {n:Nat} {t:List C} {H:ze} {K:Exit->List C->ze->Prop}
  (h:wpA P B c t H fun e t1 H1=>(e=.normal∧LoopN P B c n t1 H1 K)∨(e≠.normal∧K e t1 H1)):LoopN P B c (n+1) t H K:=by
 refine ⟨.step ((qx h).post fun ex s1 h1=>?_)⟩
 rcases h1 with ⟨rfl,h⟩ | ⟨hne,hK⟩
 ·exact ⟨s1,.refl s1,h.out⟩
 ·refine ⟨s1,.refl s1,?_⟩
  cases ex with
  | normal=>exact absurd rfl hne
  | _=>exact hK
theorem kK.ofN {c:Code} (n:Nat) {t:List C} {H:ze} {K:Exit->List C->ze->Prop} (h:LoopN P B c n t H K):kK P B c t H K:=⟨⟨n,h.out⟩⟩
end
section
variable {P:Program} {B:Nat}
theorem kr {x y:Code} {t:List C} {H:ze} {R:Exit->S->Prop} (h:wpA P B x t H fun e t1 H1=>(e=.normal∧∃ t2 H2,zl B ⟨t1,H1⟩ ⟨t2,H2⟩∧z1 P B y ⟨t2,H2⟩ R)∨(e≠.normal∧R e ⟨t1,H1⟩)):z1 P B (.seq x y) ⟨t,H⟩ R:=by
 refine .seq ((qx h).post fun ex s1 h1=>?_)
 rcases h1 with ⟨rfl,t2,H2,hw,hr⟩ | ⟨hne,hr⟩
 ·exact ⟨_,hw,hr⟩
 ·refine ⟨s1,.refl s1,?_⟩
  cases ex with
  | normal=>exact absurd rfl hne
  | _=>exact hr
end
def behind:Nat->Code->Code
 | 0,c=>c
 | n+1,.seq _ y=>behind n y
 | _,c=>c
end Go.Ab
namespace Go.Ab
theorem cE {B:Nat}(n:Nat){t1 t2:List C}{H1 H2:ze}(h:Ab.cov t2 t1:=by (conv=>whnf);(repeat (refine ⟨rfl,?_⟩;(conv=>whnf)));exact trivial)(hB:Nat.ble B n=true:=by exact rfl)(hn:Nat.ble n H1.length=true:=by exact rfl)(ht:t2.all (j5 n 9)=true:=by exact rfl)(hr:ja n (H1.take n)=true:=by exact rfl)(hH:H1.take n=H2:=by exact rfl):zl B ⟨t1,H1⟩ ⟨t2,H2⟩:=zl.zi4 n h hB hn ht hr hH
theorem cC {B:Nat}{t1 t2:List C}{H:ze}(h:Ab.cov t2 t1:=by (conv=>whnf);(repeat (refine ⟨rfl,?_⟩;(conv=>whnf)));exact trivial):zl B ⟨t1,H⟩ ⟨t2,H⟩:=zl.cov h
end Go.Ab
