import Derived.IntWalk
import Derived.Test.YtkbnjgogjccmfaaGreatTB
set_option linter.all false
set_option maxRecDepth 100000
set_option maxHeartbeats 4000000
namespace Go.Ab
def Gz (x:Value) (k:Value->Prop):Prop:=
 match x with
 | .int t n=>k (.int t n)
 | .bool b=>k (.bool b)
 | .string s=>k (.string s)
 | x=>k x
def ji (n:Nat) (k:Nat->Prop):Prop:=
 match n with
 | 0=>k 0
 | 1=>k 1
 | 2=>k 2
 | 3=>k 3
 | 4=>k 4
 | 5=>k 5
 | 6=>k 6
 | 7=>k 7
 | 8=>k 8
 | 9=>k 9
 | 10=>k 10
 | 11=>k 11
 | 12=>k 12
 | 13=>k 13
 | 14=>k 14
 | 15=>k 15
 | 16=>k 16
 | 17=>k 17
 | 18=>k 18
 | 19=>k 19
 | 20=>k 20
 | 21=>k 21
 | 22=>k 22
 | 23=>k 23
 | 24=>k 24
 | 25=>k 25
 | 26=>k 26
 | 27=>k 27
 | 28=>k 28
 | 29=>k 29
 | 30=>k 30
 | 31=>k 31
 | 32=>k 32
 | 33=>k 33
 | 34=>k 34
 | 35=>k 35
 | 36=>k 36
 | 37=>k 37
 | 38=>k 38
 | 39=>k 39
 | 40=>k 40
 | 41=>k 41
 | 42=>k 42
 | 43=>k 43
 | 44=>k 44
 | 45=>k 45
 | 46=>k 46
 | 47=>k 47
 | 48=>k 48
 | 49=>k 49
 | 50=>k 50
 | 51=>k 51
 | 52=>k 52
 | 53=>k 53
 | 54=>k 54
 | 55=>k 55
 | 56=>k 56
 | 57=>k 57
 | 58=>k 58
 | 59=>k 59
 | 60=>k 60
 | 61=>k 61
 | 62=>k 62
 | 63=>k 63
 | 64=>k 64
 | n=>k n
def qq {n:Nat} {k:Nat->Prop} (h:ji n k):k n:=by
 unfold ji at h;split at h <;> exact h
def xj {α:Type}:List α->(List α->Prop)->Prop
 | [],k=>k []
 | x::xs,k=>xj xs fun ys=>k (x::ys)
def q8 {α:Type}:∀ {l:List α} {k:List α->Prop},xj l k->k l
 | [],k,h=>h
 | x::xs,k,h=>q8 (l:=xs) (k:=fun ys=>k (x::ys)) h
def qL (c:C) (k:C->Prop):Prop:=
 match c with
 | .v x=>Gz x fun x=>k (.v x)
 | .uv o sz rows=>k (.uv o sz rows)
 | .jN cells=>xj cells fun cells=>k (.jN cells)
 | .ref id hops sz i j=>ji id fun id=>ji sz fun sz=>ji j fun j=>k (.ref id hops sz i j)
 | .sl id hops sz lo len full=>ji id fun id=>k (.sl id hops sz lo len full)
 | .fn f first caps=>k (.fn f first caps)
 | .mp id=>ji id fun id=>k (.mp id)
 | .agg cs=>xj cs fun cs=>k (.agg cs)
 | .u1 cs=>xj cs fun cs=>k (.u1 cs)
 | .un=>k .un
 | .za=>k .za
 | .gl id sz rows=>ji id fun id=>k (.gl id sz rows)
 | .eZ t c=>k (.eZ t c)
 | .rc r=>k (.rc r)
def OE {x:Value} {k:Value->Prop} (h:Gz x k):k x:=by
 unfold Gz at h;split at h <;> exact h
def zQ {c:C} {k:C->Prop} (h:qL c k):k c:=by
 cases c with
 | v x=>exact OE (k:=fun x=>k (.v x)) h
 | jN cells=>exact q8 (k:=fun cells=>k (.jN cells)) h
 | ref id hops sz i j=>exact qq (k:=fun j=>k (.ref id hops sz i j)) (qq (k:=fun sz=>ji j fun j=>k (.ref id hops sz i j)) (qq (k:=fun id=>ji sz fun sz=>ji j fun j=>k (.ref id hops sz i j)) h))
 | sl id hops sz lo len full=>exact qq (k:=fun id=>k (.sl id hops sz lo len full)) h
 | mp id=>exact qq (k:=fun id=>k (.mp id)) h
 | gl id sz rows=>exact qq (k:=fun id=>k (.gl id sz rows)) h
 | agg cs=>exact q8 (k:=fun cs=>k (.agg cs)) h
 | u1 cs=>exact q8 (k:=fun cs=>k (.u1 cs)) h
 | _=>exact h
def yV {α:Type} (f:α->(α->Prop)->Prop):List α->(List α->Prop)->Prop
 | [],k=>k []
 | x::xs,k=>f x fun x=>yV f xs fun xs=>k (x::xs)
def qJ {α:Type} {f:α->(α->Prop)->Prop} (hf:∀ x k,f x k->k x):∀ {l:List α} {k:List α->Prop},yV f l k->k l
 | [],k,h=>h
 | x::xs,k,h=>qJ hf (l:=xs) (k:=fun xs=>k (x::xs)) (hf x _ h)
def Gq (ob:Ob) (k:Ob->Prop):Prop:=
 match ob with
 | ⟨kind,ty,sz,rows,fz⟩=>match kind with
  | 1=>ji sz fun sz=>yV (yV qL) rows fun rows=>k ⟨1,ty,sz,rows,fz⟩
  | kd=>k ⟨kd,ty,sz,rows,fz⟩
def Ov {ob:Ob} {k:Ob->Prop} (h:Gq ob k):k ob:=by
 obtain ⟨kind,ty,sz,rows,fz⟩:=ob;unfold Gq at h;dsimp only at h;split at h
 ·exact qJ (fun _ _ h=>qJ (fun _ _ h=>zQ h) h) (k:=fun rows=>k ⟨1,ty,sz,rows,fz⟩) (qq (k:=fun sz=>yV (yV qL) rows fun rows=>k ⟨1,ty,sz,rows,fz⟩) h)
 ·exact h
def oL (H:zl) (k:zl->Prop):Prop:=yV Gq H k
def vX {H:zl} {k:zl->Prop} (h:oL H k):k H:=qJ (fun _ _ h=>Ov h) h
def okB (c:C) (k:C->Prop):Prop:=
 match c with
 | .v (.bool b)=>(b=true->k (.v (.bool true)))∧(b=false->k (.v (.bool false)))
 | c=>k c
def Hm (c:C) (k:C->Prop):Prop:=
 match c with
 | .v (.bool b)=>match b with
  | true=>k (.v (.bool true))
  | false=>k (.v (.bool false))
 | c=>qL c k
def JO {c:C} {k:C->Prop} (h:Hm c k):k c:=by
 unfold Hm at h;split at h
 ·rename_i b;cases b <;> exact h
 ·exact zQ h
def jd {c:C} {k:C->Prop} (h:okB c k):k c:=by
 unfold okB at h;split at h
 ·rename_i b;cases b
  ·exact h.2 rfl
  ·exact h.1 rfl
 ·exact h
def ox {α:Type}:List α->Nat->α->(List α->Prop)->Prop
 | [],_,_,k=>k []
 | _::xs,0,y,k=>k (y::xs)
 | x::xs,n+1,y,k=>ox xs n y fun ys=>k (x::ys)
def kW {α:Type}:∀ {l:List α} {n:Nat} {y:α} {k:List α->Prop},ox l n y k->k (l.set n y)
 | [],_,_,k,h=>h
 | _::xs,0,y,k,h=>h
 | x::xs,n+1,y,k,h=>kW (l:=xs) (n:=n) (y:=y) (k:=fun ys=>k (x::ys)) h
def lD (tmps:List C) (dst:Option Tmp) (c:C) (k:List C->Prop):Prop:=
 match dst with
 | some d=>ox tmps d c k
 | none=>k tmps
def jJ {tmps:List C} {dst:Option Tmp} {c:C} {k:List C->Prop} (h:lD tmps dst c k):k (put tmps dst c):=by
 cases dst with
 | none=>exact h
 | some d=>exact kW h
def bK (b:Bool) (k:Prop):Prop:=
 match b with
 | true=>k
 | false=>False
def zW {b:Bool} {k:Prop} (h:bK b k):b=true∧k:=by
 cases b
 ·exact cM
 ·exact ⟨rfl,h⟩
def mH (ρ:Operand->C) (x:Option Operand) (dflt:Nat) (k:Nat->Prop):Prop:=
 match x with
 | none=>k dflt
 | some y=>match ρ y with
  | .v (.int _ n)=>0<=n∧k n.toNat
  | _=>False
def yi {ρ:Operand->C} {x:Option Operand} {dflt:Nat} {k:Nat->Prop} (h:mH ρ x dflt k):∃ n,iN ρ x dflt n∧k n:=by
 unfold mH at h;unfold iN;cases x with
 | none=>exact ⟨dflt,rfl,h⟩
 | some y=>
  dsimp only at h;split at h
  ·rename_i kd n e;exact ⟨n.toNat,⟨kd,by rw [e,pP h.1]⟩,h.2⟩
  ·exact cM
def n7 (place:Nat->Option (Nat × Nat)):List C->List (Nat × C)->(List C->Prop)->Prop
 | cells,[],k=>k cells
 | cells,(i,c)::rest,k=>match place i with
  | none=>False
  | some (off,size)=>bK (iX c && (c.cells.length == size) && decide (off+size<=cells.length)) <| yV qL (yh off c.cells cells) fun cells=>n7 place cells rest k
def E8 {place:Nat->Option (Nat × Nat)}:∀ {parts:List (Nat × C)} {cells:List C} {k:List C->Prop},n7 place cells parts k->∃ cs,n6 place cells parts=some cs∧k cs
 | [],cells,k,h=>⟨cells,rfl,h⟩
 | (i,c)::rest,cells,k,h=>by
  unfold n7 at h;split at h
  ·exact cM
  ·rename_i off size hp;obtain ⟨h1,h2⟩:=zW h;have h3:=qJ (fun _ _ h=>zQ h) (k:=fun cells=>n7 place cells rest k) h2;obtain ⟨cs,h4,h5⟩:=E8 h3;refine ⟨cs,?_,h5⟩;simp only [n6,hp];rw [dQ h1];exact h4
def GG (P:Program) (t:TypeId) (parts:List (Nat × C)) (k:List C->Prop):Prop:=
 match mE P t,P.underlying t with
 | some z,some (.array _ e)=>match P.info? e with
  | some ie=>yV qL z fun z=>n7 (fun i=>some (i * ie.size,ie.size)) z parts k
  | none=>False
 | some z,some (.struct fields)=>match fields.toList.mapM (fun f=>(P.info? f.type).map fun i=>(f.offset,i.size)) with
  | some places=>xj places fun places=>yV qL z fun z=>n7 (places.toArray[·]?) z parts k
  | none=>False
 | _,_=>False
def Iv {P:Program} {t:TypeId} {parts:List (Nat × C)} {k:List C->Prop} (h:GG P t parts k):∃ cs,DZ P t parts=some cs∧k cs:=by
 unfold GG at h;unfold DZ;split at h
 ·rename_i z n e hz hu;simp only [hz,hu];split at h
  ·rename_i ie hie;simp only [hie];exact E8 (qJ (fun _ _ h=>zQ h) (k:=fun z=>n7 (fun i=>some (i * ie.size,ie.size)) z parts k) h)
  ·exact cM
 ·rename_i z fields hz hu;simp only [hz,hu];split at h
  ·rename_i places hpl;simp only [hpl];have h1:=q8 (k:=fun places:List (Nat × Nat)=>yV qL z fun z=>n7 (places.toArray[·]?) z parts k) h;exact E8 (qJ (fun _ _ h=>zQ h) (k:=fun z=>n7 (places.toArray[·]?) z parts k) h1)
  ·exact cM
 ·exact cM
def GN (P:Program) (H:zl) (ρ:Operand->C) (t:TypeId) (x:Operand) (lo hi mx:Option Operand) (K:C->zl->Prop):Prop:=
 match P.underlying t with
 | some (.slice e)=>match P.info? e with
  | some i=>match ρ x with
   | .uv fo sz rows=>(rows=[]∨sz=i.size)∧match mx with
    | none=>match hi with
     | none=>mH ρ lo 0 fun l=>l<=rows.length∧K (.uv (if fo == 1 then 1 else 0) sz (rows.drop l)) H
     | some hh=>mH ρ lo 0 fun l=>mH ρ (some hh) rows.length fun h=>l<=h∧h<=rows.length∧K (.uv 0 sz ((rows.drop l).take (h - l))) H
    | some m=>match hi with
     | some hh=>mH ρ lo 0 fun l=>mH ρ (some hh) 0 fun h=>mH ρ (some m) 0 fun m'=>m'=h∧l<=h∧h<=rows.length∧K (.uv 1 sz ((rows.drop l).take (h - l))) H
     | none=>False
   | .sl id hops sz lo0 len full=>match mx with
    | none=>sz=i.size∧mH ρ lo 0 fun l=>mH ρ hi len fun h=>l<=h∧h<=len∧(l=0∨l < h)∧(full=false∨h=len)∧K (.sl id hops sz (lo0+l) (h - l) full) H
    | some _=>False
   | _=>False
  | none=>False
 | some .string=>match ρ x with
  | .v (.string s)=>match s with
   | ⟨⟨b⟩⟩=>match mx with
    | none=>mH ρ lo 0 fun l=>mH ρ hi b.length fun h=>l<=h∧h<=b.length∧K (.v (.string ⟨⟨(b.take h).drop l⟩⟩)) H
    | some _=>False
  | _=>False
 | _=>False
def Gv (P:Program) (H:zl) (ρ:Operand->C) (t:TypeId) (x y:Operand) (K:C->zl->Prop):Prop:=
 match P.underlying t with
 | some (.slice e)=>match P.info? e with
  | some i=>match ρ y with
   | .v (.int _ n)=>match ρ x with
    | .uv o sz rows=>bK ((o == 0 || o == 1) && sz == i.size) <| 0<=n∧∃ r,rows[n.toNat]?= some r∧K (.jN r) H
    | .sl id hops sz lo len _=>bK (sz == i.size) <| 0<=n∧n.toNat < len∧K (.ref id hops sz (lo+n.toNat) 0) H
    | _=>False
   | _=>False
  | none=>False
 | some (.array len e)=>match P.info? e with
  | some i=>match ρ y with
   | .v (.int _ n)=>match wM (ρ x) (n.toNat * i.size) with
    | some c=>0<=n∧n < len∧qL c fun c=>K c H
    | none=>False
   | _=>False
  | none=>False
 | _=>False
def GQ (P:Program) (H:zl) (ρ:Operand->C) (t:TypeId) (x y:Operand) (K:C->zl->Prop):Prop:=
 match ρ y with
 | .v (.int _ n)=>match P.underlying t with
  | some .string=>match ρ x with
   | .v (.string s)=>match s with
    | ⟨⟨b⟩⟩=>0<=n∧∃ c,b[n.toNat]?= some c∧K (.v (.int .u8 c.toNat)) H
   | _=>False
  | some (.array len e)=>match P.info? e with
   | some i=>match ρ x with
    | .agg cs=>0<=n∧n < len∧∃ c,nA P e cs (n.toNat * i.size)=some c∧okB c fun c=>qL c fun c=>K c H
    | _=>False
   | none=>False
  | _=>False
 | _=>False
def Gy (P:Program) (H:zl) (ρ:Operand->C) (t:TypeId) (x:Operand) (f:Nat) (K:C->zl->Prop):Prop:=
 match P.underlying t with
 | some (.struct fs)=>match fs[f]? with
  | some fd=>match ρ x with
   | .agg cs=>match nA P fd.type cs fd.offset with
    | some c=>okB c fun c=>qL c fun c=>K c H
    | none=>False
   | _=>False
  | none=>False
 | _=>False
def Gx (P:Program) (H:zl) (ρ:Operand->C) (t:TypeId) (x:Operand) (f:Nat) (K:C->zl->Prop):Prop:=
 match P.underlying t with
 | some (.struct fs)=>match fs[f]? with
  | some fd=>match P.info? fd.type with
   | some i=>match wM (ρ x) fd.offset with
    | some c=>bK (i.size != 0) <| qL c fun c=>K c H
    | none=>False
   | none=>False
  | none=>False
 | _=>False
def DL (P:Program) (H:zl) (x:C) (sz':Nat) (rows':List (List C)) (e:TypeId) (i:TypeInfo) (K:C->zl->Prop):Prop:=
 match rows' with
 | []=>(xJ H (eV x)).isSome=true∧K (eV x) H
 | r'::rs'=>bK (sz' == i.size) <| ji i.size fun sz0=>ji H.length fun m=>match x with
  | .uv 1 sz rows=>(rows=[]∨sz=sz0)∧rows.length+(rs'.length+1)<=maxLen∧(rows.length+(rs'.length+1)) * i.bytes<=140737488355328∧
    xj (H++[⟨2,e,sz0,rows++r'::rs',0⟩]) fun H'=>K (.sl m [] sz0 0 (rows.length+(rs'.length+1)) false) H'
  | .sl id [] sz 0 n false=>match H[id]? with
   | some ob=>bK (sz == sz0 && ob.kind == 2 && ob.ty == e && ob.sz == sz0) <| ob.rows.length=n∧ob.rows.all (·.all zy)=true∧n+(rs'.length+1)<=maxLen∧(n+(rs'.length+1)) * i.bytes<=140737488355328∧
     xj (xQ H id++[⟨2,e,sz0,ob.rows++r'::rs',ob.fz⟩]) fun H'=>K (.sl m [] sz0 0 (n+(rs'.length+1)) false) H'
   | none=>False
  | _=>False
def Lr (H:zl) (sz:Nat) (rows:List (List C)) (sz':Nat) (rows':List (List C)) (e:TypeId) (i:TypeInfo) (K:C->zl->Prop):Prop:=
 ji i.size fun sz0=>ji H.length fun m=>(rows=[]∨sz=sz0)∧(rows'=[]∨sz'=sz0)∧rows.length+rows'.length<=maxLen∧(rows.length+rows'.length) * i.bytes<=140737488355328∧
  xj (H++[⟨4,e,sz0,rows++rows',0⟩]) fun H'=>K (.gl m sz0 (rows++rows')) H'
def Gk (P:Program) (H:zl) (ρ:Operand->C) (x y:Operand) (e:TypeId) (i:TypeInfo) (K:C->zl->Prop):Prop:=
 match xJ H (eV (ρ y)) with
 | some (sz',rows')=>match ρ x with
  | .gl id sz rows=>match H[id]? with
   | some ob=>bK (sz == i.size) <| ji i.size fun sz0=>ob=⟨4,e,sz,rows,0⟩∧(rows'=[]∨sz'=sz0)∧rows.length+rows'.length<=maxLen∧(rows.length+rows'.length) * i.bytes<=140737488355328∧
     ox H id ⟨4,e,sz0,rows++rows',0⟩ fun H'=>K (.gl id sz0 (rows++rows')) H'
   | none=>False
  | .uv 1 sz rows=>Lr H sz rows sz' rows' e i K∨DL P H (.uv 1 sz rows) sz' rows' e i K
  | x=>DL P H x sz' rows' e i K
 | none=>False
def HC (H:zl) (op:BinOp) (a b:List UInt8) (K:C->zl->Prop):Prop:=
 match op with
 | .eql=>okB (.v (.bool (a == b))) fun c=>K c H
 | .neq=>okB (.v (.bool (!(a == b)))) fun c=>K c H
 | .add=>a.length+b.length<=9223372036854775807∧K (.v (.string ⟨⟨a++b⟩⟩)) H
 | _=>False
def Ec (P:Program) (H:zl) (ρ:Operand->C) (o:Oper) (cl:Call) (K:C->zl->Prop):Prop:=
 match cl.callee with
 | .value x=>match ρ x with
  | .fn f first caps=>bK (qp P f) <| ∃ r H',zb P f H (first++(cl.args.toList.map fun x=>eV (ρ x))++caps) r H'∧okB r fun r=>K r H'
  | .v (.func g first caps)=>match g with
   | .yield l=>bK (first.isEmpty && caps.isEmpty) <| ∃ r H',ju P l H (cl.args.toList.map ρ) r H'∧okB r fun r=>K r H'
   | _=>False
  | _=>False
 | .invoke x name=>match ρ x with
  | .eZ t c=>∃ f,G8 P t name f=true∧qp P f=true∧∃ r H',zb P f H (c::(cl.args.toList.map ρ)) r H'∧okB r fun r=>K r H'
  | _=>False
 | .builtin .len=>match cl.args.toList,cl.argTypes.toList with
  | [x],[t]=>match P.underlying t with
   | some (.slice _)=>match Ef (eV (ρ x)) with
    | some n=>K (.v (.int .i64 n)) H
    | none=>False
   | some .string=>match ρ x with
    | .v (.string s)=>match s with
     | ⟨⟨b⟩⟩=>K (.v (.int .i64 b.length)) H
    | _=>False
   | _=>match iK P (execOp (fun x=>nH (ρ x)) o) with
    | some (.value v)=>bK (o.op.operands.toList.all (fun x=>eu (ρ x)) && v.oneCell') <| okB (.v v) fun c=>K c H
    | _=>False
  | _,_=>False
 | .builtin .append=>match cl.args.toList,cl.argTypes.toList with
  | [x,y],[t,t']=>bK (t' == t) <| match P.underlying t with
   | some (.slice e)=>match P.info? e with
    | some i=>match i.zero with
     | some z=>bK (z.cells.size == i.size) <| Gk P H ρ x y e i K
     | none=>False
    | none=>False
   | _=>False
  | _,_=>False
 | _=>match iK P (execOp (fun x=>nH (ρ x)) o) with
  | some (.value v)=>bK (o.op.operands.toList.all (fun x=>eu (ρ x)) && v.oneCell') <| okB (.v v) fun c=>K c H
  | _=>False
def MP (P:Program) (H:zl) (o:Oper) (ρ:Operand->C) (op:BinOp) (t:TypeId) (xs ys:List C) (K:C->zl->Prop):Prop:=
 (!P.eqGuardType P.depth t && mw P 9 t)=true∧match mn P 9 t (.agg xs) (.agg ys) with
  | some b=>match op with
   | .eql=>okB (.v (.bool b)) fun c=>K c H
   | .neq=>okB (.v (.bool (!b))) fun c=>K c H
   | _=>False
  | none=>False
def CE (P:Program) (t:TypeId) (id:Nat) (hops:List eK) (i k:Nat) (r:List C) (K:C->Prop):Prop:=
 match P.underlying t,P.info? t with
 | some d,some inf=>match AR d with
  | true=>k+inf.size<=r.length∧yV qL (vn id hops i k ((r.drop k).take inf.size)) fun cs=>K (.agg cs)
  | false=>k+1<=r.length∧match vn id hops i k ((r.drop k).take 1) with
   | [x]=>okB x fun x=>qL x K
   | _=>False
 | _,_=>False
def Ct (P:Program) (H:zl) (t:TypeId) (c:C) (K:C->Prop):Prop:=
 match c with
 | .ref id hops sz i k=>match H[id]? with
  | some ⟨kind,ty,osz,orows,fz⟩=>match kind with
   | 2=>match hops with
    | []=>bK (osz == sz) <| ∃ r,orows[i]?= some r∧CE P t id [] i k r K
    | h::hs=>∃ rows r,z6 H id (h::hs)=some (sz,rows)∧rows[i]?= some r∧CE P t id (h::hs) i k r K
   | 1=>match ty with
    | 0=>bK (osz == sz && hops.isEmpty) <| ∃ r,orows[i]?= some r∧CE P t id [] i k r K
    | _=>match wq P H t (.ref id hops sz i k) with
     | some c=>okB c fun c=>qL c K
     | none=>False
   | _=>match wq P H t (.ref id hops sz i k) with
    | some c=>okB c fun c=>qL c K
    | none=>False
  | none=>False
 | c=>match wq P H t c with
  | some c=>okB c fun c=>qL c K
  | none=>False
def Fb {P:Program} {H:zl} {t:TypeId} {id:Nat} {hops:List eK} {sz i k:Nat} {rows:List (List C)} {r:List C} {K:C->Prop} (hg:z6 H id hops=some (sz,rows)) (hr:rows[i]?= some r) (h:CE P t id hops i k r K):
  ∃ c,wq P H t (.ref id hops sz i k)=some c∧K c:=by
 unfold CE at h;split at h
 ·rename_i d inf hd hi;have hrd:∀ n,k+n<=r.length->mY H (.ref id hops sz i k) n=some (vn id hops i k ((r.drop k).take n)):=fun n hn=>by simp [mY,hg,hr,hn]
  split at h
  ·rename_i hag;obtain ⟨h1,h2⟩:=h;refine ⟨_,?_,qJ (fun _ _ h=>zQ h) (k:=fun cs=>K (.agg cs)) h2⟩;unfold wq;rw [hd,hi];simp only [hag,if_true];rw [hrd _ h1]
   rfl
  ·rename_i hag;obtain ⟨h1,h2⟩:=h;split at h2
   ·rename_i x hx;refine ⟨x,?_,zQ (jd (k:=fun x=>qL x K) h2)⟩;unfold wq;rw [hd,hi];simp only [hag];rw [hrd _ h1,hx]
    rfl
   ·exact h2.elim
 ·exact cM
def C0 {P:Program} {H:zl} {t:TypeId} {c:C} {K:C->Prop} (h:Ct P H t c K):∃ c',wq P H t c=some c'∧K c':=by
 unfold Ct at h;split at h
 ·split at h
  ·rename_i id hops sz i k kind ty osz orows fz hob;split at h
   ·split at h
    ·obtain ⟨h1,r,h2,h3⟩:=zW h;simp only [gT] at h1;exact Fb (by unfold z6;rw [hob];simp [qQ,h1]) h2 h3
    ·obtain ⟨rows,r,h1,h2,h3⟩:=h;exact Fb h1 h2 h3
   ·split at h
    ·obtain ⟨h1,r,h2,h3⟩:=zW h;simp only [dU,gT,ui] at h1;obtain ⟨h1,rfl⟩:=h1;exact Fb (by unfold z6;rw [hob];simp [qQ,h1]) h2 h3
    ·split at h
     ·rename_i c hc;exact ⟨c,hc,zQ (jd (k:=fun c=>qL c K) h)⟩
     ·exact cM
   ·split at h
    ·rename_i c hc;exact ⟨c,hc,zQ (jd (k:=fun c=>qL c K) h)⟩
    ·exact cM
  ·exact cM
 ·split at h
  ·rename_i c hc;exact ⟨c,hc,zQ (jd (k:=fun c=>qL c K) h)⟩
  ·exact cM
def vF (r:List C) (k:Nat) (cs:List C) (K:List C->Prop):Prop:=bK (Nat.ble (k+cs.length) r.length) <| xj (yh k cs r) K
def Fq {r:List C} {k:Nat} {cs:List C} {K:List C->Prop} (h:vF r k cs K):k+cs.length<=r.length∧K (yh k cs r):=
 ⟨rz (zW h).1,q8 (zW h).2⟩
def D0 (P:Program) (H:zl) (t:TypeId) (a x:C) (K:zl->Prop):Prop:=
 match a with
 | .ref id hops sz i k=>match H[id]? with
  | some ⟨kind,ty,osz,orows,fz⟩=>match kind with
   | 2=>match P.info? t with
    | some inf=>bK (iX x && (x.cells.length == inf.size) && x.cells.all jf) <| yV qL x.cells fun cs=>match hops with
     | []=>bK (osz == sz && fz == 0) <| ∃ r,orows[i]?= some r∧((r.drop k).take cs.length).all zy=true∧vF r k cs fun r'=>ox H id ⟨2,ty,osz,orows.set i r',0⟩ K
     | h::hs=>bK (fz == 0) <| ∃ rows r,z6 H id (h::hs)=some (sz,rows)∧rows[i]?= some r∧((r.drop k).take cs.length).all zy=true∧vF r k cs fun r'=>ox H id ⟨2,ty,osz,jw orows (h::hs) (fun rows=>rows.set i r'),0⟩ K
    | none=>False
   | 1=>match ty with
    | 0=>match P.info? t with
     | some inf=>bK (iX x && (x.cells.length == inf.size)) <| yV qL x.cells fun cs=>bK (osz == sz && fz == 0 && hops.isEmpty) <| ∃ r,orows[i]?= some r∧((r.drop k).take cs.length).all zy=true∧vF r k cs fun r'=>ox H id ⟨1,0,osz,orows.set i r',0⟩ K
     | none=>False
    | _=>match hops,orows,i with
     | [],[r],0=>match P.info? t with
      | some inf=>bK (osz == sz && fz == 0 && iX x && (x.cells.length == inf.size) && ((r.drop k).take x.cells.length).all zy) <| yV qL x.cells fun cs=>vF r k cs fun r'=>ox H id ⟨1,ty,osz,[r'],0⟩ K
      | none=>False
     | hops,_,i=>match vm P H t (.ref id hops sz i k) x with
      | some H'=>oL H' K
      | none=>False
   | _=>match vm P H t (.ref id hops sz i k) x with
    | some H'=>oL H' K
    | none=>False
  | none=>False
 | a=>match vm P H t a x with
  | some H'=>oL H' K
  | none=>False
def yR {α:Type} {l:List α} {i:Nat} {r:α} (f:α->α) (h:l[i]?= some r):l.modify i f=l.set i (f r):=by
 apply g9
 intro j;rw [pq,dY];split
 ·rename_i e;subst e;rw [dQ (dL.1 h).1,h]
  rfl
 ·simp
def JF {f g:List (List C)->List (List C)}:∀ (hops:List eK) (sz:Nat) (rows:List (List C)) {sz':Nat} {rows':List (List C)},vA sz rows hops=some (sz',rows')->f rows'=g rows'->jw rows hops f=jw rows hops g
 | [],sz,rows,sz',rows',h,he=>by
  rw [qQ] at h;cases h
  exact he
 | (i,k)::hs,sz,rows,sz',rows',h,he=>by
  rw [xF] at h;rw [Dh,Dh];split at h
  ·rename_i sz2 rows2 hc
   try rw [hc]
   simp only [JF hs sz2 rows2 h he]
  ·cases h
def IJ {P:Program} {H:zl} {t:TypeId} {a x:C} {K:zl->Prop} (h:D0 P H t a x K):∃ H',vm P H t a x=some H'∧K H':=by
 unfold D0 at h;cases a with
 | ref id hops sz i k=>
  dsimp only at h;split at h
  ·rename_i kind ty osz orows fz hob;split at h
   ·split at h
    ·rename_i inf hinf;obtain ⟨hv,h⟩:=zW h;have h:=qJ (fun _ _ h=>zQ h) h;simp only [dU,gT] at hv
     have go:∀ hops rows r,z6 H id hops=some (sz,rows)->rows[i]?= some r->fz=0->((r.drop k).take x.cells.length).all zy=true->(vF r k x.cells fun r'=>ox H id ⟨2,ty,osz,jw orows hops (fun rows=>rows.set i r'),0⟩ K)->
       ∃ H',vm P H t (.ref id hops sz i k) x=some H'∧K H':=fun hops rows r h1 h2 h0 h3 h4=>by
      obtain ⟨h5,h6⟩:=Fq h4;have h6:=kW h6;refine ⟨_,?_,h6⟩;unfold vm;rw [hinf];dsimp only;rw [h1,hob];dsimp only;rw [h2];dsimp only;rw [dQ]
      ·congr 1
       unfold lx;rw [yR _ hob]
       congr 1
       dsimp only;subst h0
       congr 1
       obtain ⟨ob2,e1,_,e3⟩:=jc h1;rw [hob] at e1;cases e1
       exact JF hops _ _ e3 (by unfold kK;rw [yR _ h2])
      ·simp only [dU,gT,pE,gh];exact ⟨⟨⟨⟨⟨⟨⟨trivial,hv.1.1⟩,hv.1.2⟩,h5⟩,h3⟩,.inr hv.2⟩,.inr aw⟩,.inr h0⟩
     split at h
     ·obtain ⟨h1,r,h2,h3,h4⟩:=zW h;simp only [dU,gT] at h1;exact go [] orows r (by unfold z6;rw [hob];simp [qQ,h1.1]) h2 h1.2 h3 h4
     ·obtain ⟨h1,rows,r,h2,h3,h4,h5⟩:=zW h;simp only [gT] at h1;exact go _ rows r h2 h3 h1 h4 h5
    ·exact cM
   ·split at h
    ·split at h
     ·rename_i inf hinf;obtain ⟨hv,h⟩:=zW h;have h:=qJ (fun _ _ h=>zQ h) h;obtain ⟨h1,r,h2,h3,h4⟩:=zW h;obtain ⟨h5,h6⟩:=Fq h4;have h6:=kW h6;simp only [dU,gT,ui] at hv h1;obtain ⟨⟨rfl,rfl⟩,rfl⟩:=h1;refine ⟨_,?_,h6⟩;have hg:z6 H id []=some (osz,orows):=by unfold z6;rw [hob];simp [qQ]
      unfold vm;rw [hinf];dsimp only;rw [hg,hob];dsimp only;rw [h2];dsimp only;rw [dQ]
      ·congr 1
       unfold lx;rw [yR _ hob]
       congr 1
       dsimp only;rw [Dm];unfold kK;rw [yR _ h2]
      ·simp only [dU,gT,pE,gh];exact ⟨⟨⟨⟨⟨⟨⟨trivial,hv.1⟩,hv.2⟩,h5⟩,h3⟩,.inl trivial⟩,.inr aw⟩,.inr trivial⟩
     ·exact cM
    ·split at h
     ·rename_i r;split at h
      ·rename_i inf hinf;obtain ⟨hv,h⟩:=zW h;have h:=qJ (fun _ _ h=>zQ h) h;obtain ⟨h5,h6⟩:=Fq h;have h6:=kW h6;simp only [dU,gT] at hv;refine ⟨_,?_,h6⟩;have h1:z6 H id []=some (osz,[r]):=by unfold z6;rw [hob];simp [qQ]
       unfold vm;rw [hinf];dsimp only;rw [h1,hob];dsimp only;rw [show [r][0]?= some r from rfl];dsimp only;rw [dQ]
       ·congr 1
        unfold lx;rw [yR _ hob]
        congr 1
        dsimp only;obtain ⟨⟨⟨⟨_,rfl⟩,_⟩,_⟩,_⟩:=hv;rw [Dm];unfold kK
        rfl
       ·simp only [dU,gT,pE,gh];obtain ⟨⟨⟨⟨e1,e2⟩,e3⟩,e4⟩,e5⟩:=hv;exact ⟨⟨⟨⟨⟨⟨⟨e1,e3⟩,e4⟩,h5⟩,e5⟩,.inl trivial⟩,.inr aw⟩,.inr e2⟩
      ·exact cM
     ·split at h
      ·rename_i H' hc;exact ⟨H',hc,vX h⟩
      ·exact cM
   ·split at h
    ·rename_i H' hc;exact ⟨H',hc,vX h⟩
    ·exact cM
  ·exact cM
 | _=>
  dsimp only at h;split at h
  ·rename_i H' hc;exact ⟨H',hc,vX h⟩
  ·exact cM
def UZ (H:zl) (a y:C):Bool:=
 match a with
 | .ref id _ _ _ _=>match H[id]? with
  | some ob=>match ob.kind with
   | 2=>true
   | 1=>match ob.ty with
    | 0=>match y with
     | .gl ..=>false
     | _=>true
    | _=>false
   | _=>false
  | none=>false
 | _=>false
def GW (P:Program) (H:zl) (ρ:Operand->C) (o:Oper) (src dst:TypeId) (x:Operand) (K:C->zl->Prop):Prop:=
 match Ab.eV (ρ x) with
 | .uv _ sz rows=>match P.underlying src,P.underlying dst with
  | some (.slice e),some .string=>match P.underlying e with
   | some (.int .u8)=>bK (sz == 1) <| ∃ bts:List UInt8,rows=bts.map Ao∧K (.v (.string ⟨⟨bts⟩⟩)) H
   | _=>False
  | _,_=>False
 | _=>match iK P (execOp (fun x=>nH (ρ x)) o) with
  | some (.value v)=>bK (xG o && o.op.operands.toList.all (fun x=>eu (ρ x)) && v.oneCell') <| okB (.v v) fun c=>K c H
  | _=>False
def G7 (P:Program) (H:zl) (ρ:Operand->C) (t:TypeId) (x y:Operand) (K:C->zl->Prop):Prop:=
 match ρ x,ρ y with
 | .v (.int _ n),.v (.int _ n')=>match P.underlying t with
  | some (.slice e)=>match P.info? e with
   | some i=>match mE P e with
    | some cs=>bK (cs.all jf) <| n'=n∧0<=n∧(i.bytes:Int) * n<=281474976710656∧n<=9223372036854775807∧
      ji i.size fun sz=>ji H.length fun m=>xj (H++[⟨2,e,sz,List.replicate n.toNat cs,0⟩]) fun H'=>K (.sl m [] sz 0 n.toNat false) H'
    | none=>False
   | none=>False
  | _=>False
 | _,_=>False
def Ha (o:Oper):Option (BinOp × TypeId × Operand):=
 match o.op with
 | .binOp op t x y _=>match y with
  | .const v=>match v with
   | .slice none 0 0=>some (op,t,x)
   | _=>none
  | _=>none
 | _=>none
def Hq (P:Program) (H:zl) (op:BinOp) (t:TypeId) (x:C) (K:C->zl->Prop):Prop:=
 match P.underlying t with
 | some (.slice _)=>match x with
  | .uv _ _ rows=>match rows with
   | []=>match op with
    | .eql=>K (.v (.bool true)) H∧K (.v (.bool false)) H
    | .neq=>K (.v (.bool true)) H∧K (.v (.bool false)) H
    | _=>False
   | r::rs=>match op with
    | .eql=>r::rs≠[]∧K (.v (.bool false)) H
    | .neq=>r::rs≠[]∧K (.v (.bool true)) H
    | _=>False
  | .sl ..=>match op with
   | .eql=>K (.v (.bool false)) H
   | .neq=>K (.v (.bool true)) H
   | _=>False
  | _=>False
 | _=>False
def G5 (o:Oper):Option (BinOp × TypeId × Operand):=
 match o.op with
 | .binOp op t x y _=>match y with
  | .const v=>match v with
   | .pointer p=>match p with
    | none=>some (op,t,x)
    | some _=>none
   | _=>none
  | _=>none
 | _=>none
def GR (x:C):Option Bool:=
 match x with
 | .ref ..=>some false
 | .jN _=>some false
 | .v y=>match y with
  | .pointer p=>match p with
   | none=>some true
   | some _=>some false
  | _=>none
 | _=>none
def Em (P:Program) (t:TypeId):Bool:=
 match P.underlying t with
 | some (.pointer e)=>e == P.pointee t
 | _=>false
def Hg (P:Program) (H:zl) (op:BinOp) (t:TypeId) (x:C) (K:C->zl->Prop):Prop:=
 match GR x with
 | some b=>match op with
  | .eql=>bK (Em P t) <| K (.v (.bool b)) H
  | .neq=>bK (Em P t) <| K (.v (.bool (!b))) H
  | _=>False
 | none=>False
def mB (P:Program) (H:zl) (ρ:Operand->C) (o:Oper) (K:C->zl->Prop):Prop:=
 match o.op with
 | .move x=>qL (ρ x) fun c=>K c H
 | .assign x=>qL (ρ x) fun c=>K c H
 | .pick x y z=>match ρ x with
  | .v (.bool b)=>qL (if b then ρ y else ρ z) fun c=>K c H
  | _=>False
 | .alloc t=>match mE P t with
  | some cs=>xj cs fun cs=>ji cs.length fun n=>ji H.length fun m=>xj (H++[⟨1,t,n,[cs],0⟩]) fun H'=>K (.ref m [] n 0 0) H'
  | none=>False
 | .box t x=>bK (iX (ρ x)) <| yV qL (ρ x).cells fun cs=>ji cs.length fun n=>ji H.length fun m=>xj (H++[⟨1,t,n,[cs],0⟩]) fun H'=>K (.ref m [] n 0 0) H'
 | .fieldAddr t x f=>Gx P H ρ t x f K
 | .indexAddr t x y=>Gv P H (fun x=>eV (ρ x)) t x y K
 | .index t x y=>GQ P H ρ t x y K
 | .field t x f=>Gy P H ρ t x f K
 | .load t x=>Ct P H t (ρ x) fun c=>K c H
 | .store t x y=>match UZ H (ρ x) (ρ y) with
  | true=>D0 P H t (ρ x) (wz (ρ y)) fun H'=>K .un H'
  | false=>D0 P H t (ρ x) (ρ y) fun H'=>K .un H'
 | .extract x n=>match ρ x with
  | .u1 vs=>match vs[n]? with
   | some c=>okB c fun c=>qL c fun c=>K c H
   | none=>False
  | _=>False
 | .nilCheck x=>bK (Gg (ρ x)) <| qL (ρ x) fun c=>K c H
 | .makeFunc f first caps=>match f with
  | .func f=>yV qL (first.toList.map ρ) fun a=>yV qL (caps.toList.map ρ) fun b=>K (.fn f a b) H
  | _=>False
 | .build t parts=>GG P t (parts.toList.map fun p=>(p.1,ρ p.2)) fun cs=>K (.agg cs) H
 | .makeInterface t x=>match P.underlying t with
  | some d=>bK (vh d) <| qL (ρ x) fun c=>K (.eZ t c) H
  | none=>False
 | .typeAssert x _ t ok=>bK ok <| match ρ x with
  | .eZ t' c=>match P.underlying t with
   | some d=>match t' == t with
    | true=>bK (vh d) <| K (.u1 [c,.v (.bool true)]) H
    | false=>match P.info? t with
     | some i=>bK (vh d && i.zero.isSome) <| K (.u1 [.za,.v (.bool false)]) H
     | none=>False
   | none=>False
  | _=>False
 | .buildSlice t len parts=>match Hn P t len (parts.toList.map fun p=>(p.1,wz (ρ p.2))) with
  | some c=>match c with
   | .uv o sz rows=>yV (yV qL) rows fun rows=>ji sz fun sz=>K (.uv o sz rows) H
   | _=>False
  | none=>False
 | .slice t x lo hi mx=>GN P H (fun x=>eV (ρ x)) t x lo hi mx K
 | .makeSlice t x y=>G7 P H ρ t x y K
 | .lookup ..=>∃ c H',u6 P o ρ H c H'∧K c H'
 | .mapUpdate ..=>∃ c H',u6 P o ρ H c H'∧K c H'
 | .mapEntry ..=>∃ c H',u6 P o ρ H c H'∧K c H'
 | .entryStore ..=>∃ c H',u6 P o ρ H c H'∧K c H'
 | .call cl=>Ec P H ρ o cl K
 | .binOp op t x y _=>match ρ x,ρ y with
  | .agg xs,.agg ys=>MP P H o ρ op t xs ys K
  | .v (.string s),.v (.string s')=>match s,s' with
   | ⟨⟨a⟩⟩,⟨⟨b⟩⟩=>HC H op a b K
  | _,_=>match iK P (execOp (fun x=>nH (ρ x)) o) with
   | some (.value v)=>bK (xG o && o.op.operands.toList.all (fun x=>eu (ρ x)) && v.oneCell') <| okB (.v v) fun c=>K c H
   | _=>False
 | .convert src dst x=>GW P H ρ o src dst x K
 | .unOp _ _ _=>match iK P (execOp (fun x=>nH (ρ x)) o) with
  | some (.value v)=>bK (xG o && o.op.operands.toList.all (fun x=>eu (ρ x)) && v.oneCell') <| Hm (.v v) fun c=>K c H
  | _=>False
 | _=>match iK P (execOp (fun x=>nH (ρ x)) o) with
  | some (.value v)=>bK (xG o && o.op.operands.toList.all (fun x=>eu (ρ x)) && v.oneCell') <| okB (.v v) fun c=>K c H
  | _=>False
section
variable {P:Program} {o:Oper} {ρ:Operand->C} {H:zl} {K:C->zl->Prop}
def u6.mL {c c':C} {H':zl} (h:u6 P o ρ H c H') (hw:WC c c'):u6 P o ρ H c' H':=fun w E σ hh hl K hk=>h w E σ hh hl K fun v w' E' h1 h2 g=>hk v w' E' h1 (hw E' v h2) g
def u6.GZ (cl:Call) (ho:o.op=.call cl) (x:Operand) (hcl:cl.callee=.value x) {f:FuncId} {first caps:List C} (hf:ρ x=.fn f first caps) (hcb:qp P f=true) {r:C} {H':zl}
  (hs:zb P f H (first++(cl.args.toList.map fun x=>Ab.eV (ρ x))++caps) r H'):u6 P o ρ H r H':=.eV <| .call cl ho x hcl (by rw [hf];rfl) hcb hs
def u6.Wx (t:TypeId) (x y:Operand) (ho:o.op=.store t x y) {H':zl} (hs:vm P H t (ρ x) (wz (ρ y))=some H'):u6 P o ρ H .un H':=by
 classical
 have hρ:∀ z,∃ c,(c=ρ z∨c=wz (ρ z))∧(z=y->c=wz (ρ z))∧(z≠y->c=ρ z):=fun z=>by
  by_cases e:z=y
  ·exact ⟨wz (ρ z),.inr rfl,fun _=>rfl,fun h=>absurd e h⟩
  ·exact ⟨ρ z,.inl rfl,fun h=>absurd h e,fun _=>rfl⟩
 obtain ⟨ρ',hρ'⟩:∃ ρ':Operand->C,∀ z,(ρ' z=ρ z∨ρ' z=wz (ρ z))∧(z=y->ρ' z=wz (ρ z))∧(z≠y->ρ' z=ρ z):=⟨fun z=>(hρ z).choose,fun z=>(hρ z).choose_spec⟩
 have hx:ρ' x=ρ x:=by
  rcases (hρ' x).1 with e | e
  ·exact e
  ·rw [e];unfold vm at hs;split at hs
   ·rename_i e2 _;rw [e2];rfl
   ·cases hs
 have h0:qI P o ρ' H .un H':=qI.store t x y ho (by rw [hx,(hρ' y).2.1 rfl];exact hs);refine .BC (h0.weaken fun z E v hl=>?_) (II hs);rcases (hρ' z).1 with e | e
 ·rw [e];exact hl
 ·rw [e];exact FZ hl
def ki (h:match iK P (execOp (fun x=>nH (ρ x)) o) with
  | some (.value v)=>bK (xG o && o.op.operands.toList.all (fun x=>eu (ρ x)) && v.oneCell') <| okB (.v v) fun c=>K c H
  | _=>False):∃ c,(∀ H2,u6 P o ρ H2 c H2)∧K c H:=by
 split at h
 ·rename_i v e;obtain ⟨h1,h2⟩:=zW h;simp only [dU,rQ] at h1;exact ⟨.v v,fun H2=>.same <| .scalar h1.1.1 h1.1.2 e h1.2,jd (k:=fun c=>K c H) h2⟩
 ·exact cM
def I9 {t:TypeId} {x:Operand} {lo hi mx:Option Operand} (ho:o.op=.slice t x lo hi mx) (h:GN P H ρ t x lo hi mx K):∃ c,(∀ H2,u6 P o ρ H2 c H2)∧K c H:=by
 unfold GN at h;split at h
 rotate_left
 ·rename_i hu;split at h
  ·rename_i s hx;obtain ⟨⟨b⟩⟩:=s;dsimp only at h;split at h
   ·obtain ⟨l,h1,h⟩:=yi h;obtain ⟨h',h2,h3,h4,h5⟩:=yi h;exact ⟨_,fun H2=>.same <| .Uz t x lo hi ho hu hx h1 h2 h3 h4,h5⟩
   ·exact cM
  ·exact cM
 ·exact cM
 rename_i e hu;split at h
 rotate_left
 ·exact cM
 rename_i i hi';split at h
 ·rename_i fo sz rows hx;obtain ⟨hsz,h⟩:=h;split at h
  ·split at h
   ·obtain ⟨l,h1,h3,h5⟩:=yi h;have:=fun H2=>u6.same <| qI.KY (H:=H2) t x lo none ho hu hi' hx hsz h1 (rfl:iN ρ none rows.length rows.length) h3 (dW _)
    refine ⟨_,this,?_⟩;rw [rG aj];by_cases hfo:fo=1
    ·simpa [hfo] using h5
    ·simpa [hfo] using h5
   ·rename_i hh;obtain ⟨l,h1,h⟩:=yi h;obtain ⟨h',h2,h3,h4,h5⟩:=yi h;exact ⟨_,fun H2=>.mL (.same <| .KY t x lo (some hh) ho hu hi' hx hsz h1 h2 h3 h4) (.share _ _ _),h5⟩
  ·split at h
   ·obtain ⟨l,h1,h⟩:=yi h;obtain ⟨h',h2,h⟩:=yi h;obtain ⟨m,h3,rfl,h4,h5,h6⟩:=yi h;exact ⟨_,fun H2=>.same <| .SZ t x lo _ _ ho hu hi' hx hsz h1 h2 h3 h4 h5,h6⟩
   ·exact cM
 ·rename_i id hops sz lo0 len full hx;split at h
  ·obtain ⟨hsz,h⟩:=h;obtain ⟨l,h1,h⟩:=yi h;obtain ⟨h',h2,h3,h4,h5,h6,h7⟩:=yi h;exact ⟨_,fun H2=>.same <| .UX t x lo hi ho hu hi' hx hsz h1 h2 h3 h4 h5 h6,h7⟩
  ·exact cM
 ·exact cM
def IV {t:TypeId} {x y:Operand} (ho:o.op=.indexAddr t x y) (h:Gv P H ρ t x y K):∃ c,(∀ H2,u6 P o ρ H2 c H2)∧K c H:=by
 unfold Gv at h;split at h
 rotate_left
 ·rename_i len e hu;split at h
  ·rename_i i hi;split at h
   ·rename_i k n hy;split at h
    ·rename_i c hx;exact ⟨c,fun H2=>.same <| .TR t x y ho hu hi hy h.1 h.2.1 hx,zQ (k:=fun c=>K c H) h.2.2⟩
    ·exact cM
   ·exact cM
  ·exact cM
 ·exact cM
 rename_i e hu;split at h
 rotate_left
 ·exact cM
 rename_i i hi;split at h
 rotate_left
 ·exact cM
 rename_i k n hy;split at h
 ·rename_i fo sz rows hx;obtain ⟨h1,h3,r,h4,h5⟩:=zW h;refine ⟨_,fun H2=>.same <| .indexAddr t x y ho hu hi hy h3 (c:=.jN r) ?_,h5⟩;rw [hx];simp only [oO];rw [dQ h1,h4]
  rfl
 ·rename_i id hops sz lo len full hx;obtain ⟨h2,h3,h4,h5⟩:=zW h;simp only [gT] at h2;refine ⟨_,fun H2=>.same <| .indexAddr t x y ho hu hi hy h3 (c:=.ref id hops sz (lo+n.toNat) 0) ?_,h5⟩;rw [hx];simp only [oO];rw [dQ (by simp [h4,h2])]
 ·exact cM
def IW {t:TypeId} {x y:Operand} (ho:o.op=.index t x y) (h:GQ P H ρ t x y K):∃ c,(∀ H2,u6 P o ρ H2 c H2)∧K c H:=by
 unfold GQ at h;split at h
 ·rename_i k n hy;split at h
  ·rename_i hu;split at h
   ·rename_i s hx;obtain ⟨⟨b⟩⟩:=s;obtain ⟨h1,c,h2,h3⟩:=h;exact ⟨_,fun H2=>.same <| .Uy t x y ho hu hx hy h1 h2,h3⟩
   ·exact cM
  ·rename_i len e hu;split at h
   ·rename_i i hi;split at h
    ·rename_i cs hx;obtain ⟨h1,h2,c,h3,h4⟩:=h;exact ⟨c,fun H2=>.same <| .PB t x y ho hu hi hx hy h1 h2 h3,zQ (k:=fun c=>K c H) (jd (k:=fun c=>qL c fun c=>K c H) h4)⟩
    ·exact cM
   ·exact cM
  ·exact cM
 ·exact cM
def IQ {t:TypeId} {x:Operand} {f:Nat} (ho:o.op=.field t x f) (h:Gy P H ρ t x f K):∃ c,(∀ H2,u6 P o ρ H2 c H2)∧K c H:=by
 unfold Gy at h;split at h
 ·rename_i fs hu;split at h
  ·rename_i fd hf;split at h
   ·rename_i cs hx;split at h
    ·rename_i c hc;exact ⟨c,fun H2=>.same <| .field t x f ho hu hf hx hc,zQ (k:=fun c=>K c H) (jd (k:=fun c=>qL c fun c=>K c H) h)⟩
    ·exact cM
   ·exact cM
  ·exact cM
 ·exact cM
def J3 {t t':TypeId} {op:BinOp} {x y:Operand} {a b:List UInt8} (ho:o.op=.binOp op t x y t') (hx:ρ x=.v (.string (bs a))) (hy:ρ y=.v (.string (bs b))) (h:HC H op a b K):∃ c,(∀ H2,u6 P o ρ H2 c H2)∧K c H:=by
 unfold HC at h;split at h
 ·exact ⟨_,fun H2=>.same <| .Mq .eql t t' x y ho (.inl rfl) hx hy,jd (k:=fun c=>K c H) h⟩
 ·exact ⟨_,fun H2=>.same <| .Mq .neq t t' x y ho (.inr rfl) hx hy,jd (k:=fun c=>K c H) h⟩
 ·exact ⟨_,fun H2=>.same <| .Wy t t' x y ho hx hy h.1,h.2⟩
 ·exact cM
def IP {t:TypeId} {x:Operand} {f:Nat} (ho:o.op=.fieldAddr t x f) (h:Gx P H ρ t x f K):∃ c,(∀ H2,u6 P o ρ H2 c H2)∧K c H:=by
 unfold Gx at h;split at h
 rotate_left
 ·exact cM
 rename_i fs hu;split at h
 rotate_left
 ·exact cM
 rename_i fd hf;split at h
 rotate_left
 ·exact cM
 rename_i i hi;split at h
 rotate_left
 ·exact cM
 rename_i c hc;obtain ⟨h1,h2⟩:=zW h;exact ⟨c,fun H2=>.same <| .fieldAddr t x f ho hu hf hi tG hc,zQ (k:=fun c=>K c H) h2⟩
def Io {cl:Call} (ho:o.op=.call cl) {x y:Operand} {e:TypeId} {i:TypeInfo} {z:Value} (ht:oq P cl x y e i z) {sz':Nat} {rows':List (List C)} (hy:xJ H (eV (ρ y))=some (sz',rows'))
  (h:DL P H (ρ x) sz' rows' e i K):∃ c H',u6 P o ρ H c H'∧K c H':=by
 unfold DL at h;split at h
 ·obtain ⟨h1,h2⟩:=h;obtain ⟨⟨sz,rows⟩,hx⟩:=Option.isSome_iff_exists.1 h1;exact ⟨_,H,.eV (ρ:=ρ) (.same <| .P0 cl ho x y ht hx hy),h2⟩
 ·rename_i r' rs'
  replace h:=zW h
  obtain ⟨hz,h⟩:=h;have hz:=eq_of_beq hz;subst hz;have h:=qq h;have h:=qq h;split at h
  ·rename_i sz rows hx;obtain ⟨h1,h2,h3,h4⟩:=h;exact ⟨_,_,.eV (ρ:=ρ) (.D6 (.PZ cl ho x y ht (by rw [hx];rfl) h1 hy aj tT (aq h3)) _ (fun e=>by cases e) rfl),by simpa using q8 h4⟩
  ·rename_i id sz n hx;split at h
   ·rename_i ob hob
    replace h:=zW h
    obtain ⟨hb,h4,h5,h6,h7,h8⟩:=h;simp only [dU,gT] at hb;obtain ⟨⟨⟨rfl,h1⟩,h2⟩,h3⟩:=hb;exact ⟨_,_,.eV (ρ:=ρ) (.BC (.Rm cl ho x y ht (by rw [hx];rfl) hob h1 h2 h3 h4 h5 hy aj (aq h6) (aq h7)) (jD.trans (jD.xQ H id fun ob' h'=>by rw [hob] at h';cases h';rw [h1];decide) (jD.push _ _ (fun e=>by cases e)))),by simpa using q8 h8⟩
   ·exact cM
  ·exact cM
def Oe {cl:Call} (ho:o.op=.call cl) {x y:Operand} {e:TypeId} {i:TypeInfo} {z:Value} (ht:oq P cl x y e i z) (h:Gk P H ρ x y e i K):∃ c H',u6 P o ρ H c H'∧K c H':=by
 unfold Gk at h;split at h
 rotate_left
 ·exact cM
 rename_i sz' rows' hy;split at h
 ·rename_i id sz rows hx;split at h
  ·rename_i ob hob
   replace h:=zW h
   obtain ⟨hz,h⟩:=h;have hz:=eq_of_beq hz;subst hz;have h:=qq h;obtain ⟨h1,h2,h3,h4,h5⟩:=h;exact ⟨_,_,.KP cl ho x y ht hx hob h1 hy h2 h3 h4,kW h5⟩
  ·exact cM
 ·rename_i sz rows hx;rcases h with h | h
  ·unfold Lr at h;have h:=qq h;have h:=qq h;obtain ⟨h1,h2,h3,h4,h5⟩:=h;exact ⟨_,_,.N0 cl ho x y ht hx h1 hy h2 h3 h4,q8 h5⟩
  ·exact Io ho ht hy (hx ▸ h)
 ·exact Io ho ht hy h
def Array.yj {α:Type} {a:Array α} {l:List α} (h:a.toList=l):a=l.toArray:=by subst h;simp
def P5 {cl:Call} (ho:o.op=.call cl) (h:Ec P H ρ o cl K):∃ c H',u6 P o ρ H c H'∧K c H':=by
 have hns:xG o=true:=by simp [xG,ho]
 have scal:∀ (h:match iK P (execOp (fun x=>nH (ρ x)) o) with
   | some (.value v)=>bK (o.op.operands.toList.all (fun x=>eu (ρ x)) && v.oneCell') <| okB (.v v) fun c=>K c H
   | _=>False),∃ c H',u6 P o ρ H c H'∧K c H':=by
  intro h;split at h
  ·rename_i v e;obtain ⟨h1,h2⟩:=zW h;simp only [dU,rQ] at h1;exact ⟨.v v,H,.same <| .scalar hns h1.1 e h1.2,jd (k:=fun c=>K c H) h2⟩
  ·exact cM
 unfold Ec at h;split at h
 ·rename_i x hcl;split at h
  ·rename_i f first caps hf;obtain ⟨h1,r,H',h2,h3⟩:=zW h;exact ⟨r,H',.GZ cl ho x hcl hf h1 h2,jd (k:=fun c=>K c H') h3⟩
  ·rename_i g first caps hf;split at h
   ·rename_i l;obtain ⟨h1,r,H',h2,h3⟩:=zW h;simp only [dU,Array.isEmpty_iff] at h1;obtain ⟨rfl,rfl⟩:=h1;exact ⟨r,H',.yield cl ho x hcl hf h2,jd (k:=fun c=>K c H') h3⟩
   ·exact cM
  ·exact cM
 ·rename_i x name hcl;split at h
  ·rename_i t c hx;obtain ⟨f,hm,hcb,r,H',h2,h3⟩:=h;exact ⟨r,H',.invoke cl ho x name hcl hx hm hcb h2,jd (k:=fun c=>K c H') h3⟩
  ·exact cM
 ·rename_i hcl;split at h
  ·rename_i x t hx ht;split at h
   ·rename_i e hu;split at h
    ·rename_i n hn;exact ⟨_,H,.eV (ρ:=ρ) <| .same <| .len cl ho hcl x (Array.yj hx) (Array.yj ht) hu hn,h⟩
    ·exact cM
   ·rename_i hu;split at h
    ·rename_i s hs;obtain ⟨⟨b⟩⟩:=s;exact ⟨_,H,.same <| .L4 cl ho hcl x (Array.yj hx) (Array.yj ht) hu hs,h⟩
    ·exact cM
   ·exact scal h
  ·exact cM
 ·rename_i hcl;split at h
  ·rename_i x y t t' hx ht;obtain ⟨ht',h⟩:=zW h;simp only [gT] at ht';subst ht';split at h
   ·rename_i e hu;split at h
    ·rename_i i hi;split at h
     ·rename_i z hz;exact Oe ho ⟨hcl,Array.yj hx,⟨_,Array.yj ht,hu⟩,hi,hz,by simpa using (zW h).1⟩ (zW h).2
     ·exact cM
    ·exact cM
   ·exact cM
  ·exact cM
 ·exact scal h
def RS {op:BinOp} {t:TypeId} {x:Operand} (ho:Ha o=some (op,t,x)) (h:Hq P H op t (ρ x) K):jE P o ρ H K:=by
 obtain ⟨t',ho⟩:∃ t',o.op=.binOp op t x (.const (.slice none 0 0)) t':=by
  unfold Ha at ho;split at ho
  ·rename_i h1;split at ho
   ·split at ho
    ·cases ho;exact ⟨_,h1⟩
    ·cases ho
   ·cases ho
  ·cases ho
 unfold Hq at h;split at h
 ·rename_i e hu;split at h
  ·rename_i fo sz rows hx;split at h
   ·split at h
    ·exact .LU .eql t t' x ho (.inl rfl) hu hx h.1 h.2
    ·exact .LU .neq t t' x ho (.inr rfl) hu hx h.1 h.2
    ·exact cM
   ·split at h
    ·exact (lF.DV .eql t t' x ho (.inl rfl) hu (.inl ⟨_,_,_,hx,h.1⟩)).iS h.2
    ·exact (lF.DV .neq t t' x ho (.inr rfl) hu (.inl ⟨_,_,_,hx,h.1⟩)).iS h.2
    ·exact cM
  ·rename_i hx;split at h
   ·exact (lF.DV .eql t t' x ho (.inl rfl) hu (.inr ⟨_,_,_,_,_,_,hx⟩)).iS h
   ·exact (lF.DV .neq t t' x ho (.inr rfl) hu (.inr ⟨_,_,_,_,_,_,hx⟩)).iS h
   ·exact cM
  ·exact cM
 ·exact cM
def IX {x:C} {b:Bool} (h:GR x=some b):∀ E u,L E x u->∃ a,u=.pointer a∧a.isNone=b:=by
 intro E u hl;unfold GR at h;split at h
 ·cases h;cases hl;exact ⟨_,rfl,rfl⟩
 ·cases h;cases hl;exact ⟨_,rfl,rfl⟩
 ·split at h
  ·split at h <;> (cases h;cases hl;exact ⟨_,rfl,rfl⟩)
  ·cases h
 ·cases h
def RA {op:BinOp} {t:TypeId} {x:Operand} (ho:G5 o=some (op,t,x)) (h:Hg P H op t (ρ x) K):∃ c,lF P o ρ H c H∧K c H:=by
 obtain ⟨t',ho⟩:∃ t',o.op=.binOp op t x (.const (.pointer none)) t':=by
  unfold G5 at ho;split at ho
  ·rename_i h1;split at ho
   ·split at ho
    ·split at ho
     ·cases ho;exact ⟨_,h1⟩
     ·cases ho
    ·cases ho
   ·cases ho
  ·cases ho
 have hT:Em P t=true->P.underlying t=some (.pointer (P.pointee t)):=fun hp=>by
  unfold Em at hp;split at hp
  ·rename_i e hu;have he:e=P.pointee t:=by simpa using hp
   rw [hu,he]
  ·cases hp
 unfold Hg at h;split at h
 ·rename_i b hb;split at h
  ·exact ⟨_,.LN .eql t t' x ho (.inl rfl) (hT (zW h).1) b (IX hb),(zW h).2⟩
  ·exact ⟨_,.LN .neq t t' x ho (.inr rfl) (hT (zW h).1) b (IX hb),(zW h).2⟩
  ·exact cM
 ·exact cM
def QP {t:TypeId} {x y:Operand} (ho:o.op=.makeSlice t x y) (h:G7 P H ρ t x y K):∃ c H',u6 P o ρ H c H'∧K c H':=by
 unfold G7 at h;split at h
 ·rename_i k n k' n' hx hy;split at h
  ·rename_i e hu;split at h
   ·rename_i i hi;split at h
    ·rename_i cs hz;obtain ⟨h1,rfl,h2,h3,h4,h5⟩:=zW h;have h5:=qq h5;have h5:=qq h5;exact ⟨_,_,.D6 (.makeSlice t x y ho hu hi hz h1 hx hy h2 h3 h4) _ (fun e=>by cases e) rfl,q8 h5⟩
    ·exact cM
   ·exact cM
  ·exact cM
 ·exact cM
def Ju {src dst:TypeId} {x:Operand} (ho:o.op=.convert src dst x) (h:GW P H ρ o src dst x K):∃ c,(∀ H2,u6 P o ρ H2 c H2)∧K c H:=by
 unfold GW at h;split at h
 ·rename_i fo sz rows hx;split at h
  ·rename_i e hs hd;split at h
   ·rename_i he;obtain ⟨h1,bts,rfl,h2⟩:=zW h;have h1:=eq_of_beq h1;subst h1;exact ⟨_,fun H2=>.eV (ρ:=ρ) <| .same <| .R2 src dst x ho hs he hd hx,h2⟩
   ·exact cM
  ·exact cM
 ·exact ki h
def Fc (h:mB P H ρ o K):∃ c H',u6 P o ρ H c H'∧K c H':=by
 unfold mB at h;split at h
 ·rename_i x ho;exact ⟨_,H,.same <| .move x (.inl ho),zQ (k:=fun c=>K c H) h⟩
 ·rename_i x ho;exact ⟨_,H,.same <| .move x (.inr ho),zQ (k:=fun c=>K c H) h⟩
 ·rename_i x y z ho;split at h
  ·rename_i b hb;exact ⟨_,H,.same <| .pick x y z ho b hb,zQ (k:=fun c=>K c H) h⟩
  ·exact cM
 ·rename_i t ho;split at h
  ·rename_i cs hz;have h:=q8 (k:=fun cs=>ji cs.length fun n=>ji H.length fun m=>xj (H++[⟨1,t,n,[cs],0⟩]) fun H'=>K (.ref m [] n 0 0) H') h;have h:=qq (k:=fun n=>ji H.length fun m=>xj (H++[⟨1,t,n,[cs],0⟩]) fun H'=>K (.ref m [] n 0 0) H') h;have h:=qq (k:=fun m=>xj (H++[⟨1,t,cs.length,[cs],0⟩]) fun H'=>K (.ref m [] cs.length 0 0) H') h;exact ⟨_,_,.D6 (.alloc t ho hz) _ (fun e=>by cases e) rfl,q8 (k:=fun H'=>K (.ref H.length [] cs.length 0 0) H') h⟩
  ·exact cM
 ·rename_i t x ho;obtain ⟨h0,h⟩:=zW h;have h:=qJ (fun _ _ h=>zQ h) (k:=fun cs=>ji cs.length fun n=>ji H.length fun m=>xj (H++[⟨1,t,n,[cs],0⟩]) fun H'=>K (.ref m [] n 0 0) H') h;have h:=qq (k:=fun n=>ji H.length fun m=>xj (H++[⟨1,t,n,[(ρ x).cells],0⟩]) fun H'=>K (.ref m [] n 0 0) H') h;have h:=qq (k:=fun m=>xj (H++[⟨1,t,(ρ x).cells.length,[(ρ x).cells],0⟩]) fun H'=>K (.ref m [] (ρ x).cells.length 0 0) H') h;exact ⟨_,_,.D6 (.box t x ho h0) _ (fun e=>by cases e) rfl,q8 (k:=fun H'=>K (.ref H.length [] (ρ x).cells.length 0 0) H') h⟩
 ·rename_i t x f ho;obtain ⟨c,h1,h2⟩:=IP ho h;exact ⟨c,H,h1 H,h2⟩
 ·rename_i t x y ho;obtain ⟨c,h1,h2⟩:=IV (ρ:=fun x=>eV (ρ x)) ho h;exact ⟨c,H,(h1 H).eV,h2⟩
 ·rename_i t x y ho;obtain ⟨c,h1,h2⟩:=IW ho h;exact ⟨c,H,h1 H,h2⟩
 ·rename_i t x f ho;obtain ⟨c,h1,h2⟩:=IQ ho h;exact ⟨c,H,h1 H,h2⟩
 ·rename_i t x ho;obtain ⟨c,h1,h2⟩:=C0 h;exact ⟨c,H,.same <| .load t x ho h1,h2⟩
 ·rename_i t x y ho;split at h
  ·obtain ⟨H',h1,h2⟩:=IJ h;exact ⟨_,H',.Wx t x y ho h1,h2⟩
  ·obtain ⟨H',h1,h2⟩:=IJ h;exact ⟨_,H',.BC (.store t x y ho h1) (II h1),h2⟩
 ·rename_i x n ho;split at h
  ·rename_i vs hx;split at h
   ·rename_i c hc;exact ⟨c,H,.same <| .extract x n ho hx hc,zQ (k:=fun c=>K c H) (jd (k:=fun c=>qL c fun c=>K c H) h)⟩
   ·exact cM
  ·exact cM
 ·rename_i x ho;exact ⟨_,H,.same <| .nilCheck x ho (zW h).1,zQ (k:=fun c=>K c H) (zW h).2⟩
 ·rename_i f first caps ho;split at h
  ·have h:=qJ (fun _ _ h=>zQ h) h;exact ⟨_,H,.same <| .makeFunc _ first caps ho,qJ (fun _ _ h=>zQ h) (k:=fun b=>K (.fn _ (first.toList.map ρ) b) H) h⟩
  ·exact cM
 ·rename_i t parts ho;obtain ⟨cs,hc,h⟩:=Iv h;exact ⟨_,H,.same <| .build t parts ho hc,h⟩
 ·rename_i t x ho;split at h
  ·rename_i d hd;obtain ⟨h1,h2⟩:=zW h;exact ⟨_,H,.RG t x ho hd h1,zQ (k:=fun c=>K (.eZ t c) H) h2⟩
  ·exact cM
 ·rename_i x xT t ok ho
  replace h:=zW h
  obtain ⟨h1,h⟩:=h;subst h1;split at h
  ·rename_i t' c hx;split at h
   ·rename_i d hd;split at h
    ·rename_i he;obtain rfl:t'=t:=by simpa using he
     exact ⟨_,H,.Rp x xT t' ho hx hd (zW h).1,(zW h).2⟩
    ·rename_i he;split at h
     ·rename_i i hi;have h2:=(zW h).1;rw [dU] at h2;exact ⟨_,H,.SH x xT t ho hx he hd h2.1 hi h2.2,(zW h).2⟩
     ·exact cM
   ·exact cM
  ·exact cM
 ·rename_i t len parts ho;split at h
  ·rename_i c hc;split at h
   ·rename_i o' sz rows;have h:=qJ (fun _ _ h=>qJ (fun _ _ h=>zQ h) h) (k:=fun rows=>ji sz fun sz=>K (.uv o' sz rows) H) h;exact ⟨_,H,.same <| (qI.buildSlice (ρ:=fun z=>wz (ρ z)) t len parts ho hc).weaken fun z E v hl=>FZ hl,qq (k:=fun sz=>K (.uv o' sz rows) H) h⟩
   ·exact cM
  ·exact cM
 ·rename_i t x lo hi mx ho;obtain ⟨c,h1,h2⟩:=I9 (ρ:=fun x=>eV (ρ x)) ho h;exact ⟨c,H,(h1 H).eV,h2⟩
 ·rename_i t x y ho;exact QP ho h
 ·exact h
 ·exact h
 ·exact h
 ·exact h
 ·rename_i cl ho;exact P5 ho h
 ·rename_i op t x y t' ho;split at h
  ·rename_i xs ys hx hy;obtain ⟨h1,h⟩:=h;simp only [dU,gX] at h1;split at h
   ·rename_i b hb;split at h
    ·exact ⟨_,H,.same <| .Dx .eql t t' x y ho (.inl rfl) h1.1 h1.2 hx hy hb,jd (k:=fun c=>K c H) h⟩
    ·exact ⟨_,H,.same <| .Dx .neq t t' x y ho (.inr rfl) h1.1 h1.2 hx hy hb,jd (k:=fun c=>K c H) h⟩
    ·exact cM
   ·exact cM
  ·rename_i s s' hx hy;obtain ⟨⟨a⟩⟩:=s;obtain ⟨⟨b⟩⟩:=s';obtain ⟨c,h1,h2⟩:=J3 ho hx hy h;exact ⟨c,H,h1 H,h2⟩
  ·obtain ⟨c,h1,h2⟩:=ki h;exact ⟨c,H,h1 H,h2⟩
 ·rename_i src dst x ho;obtain ⟨c,h1,h2⟩:=Ju ho h;exact ⟨c,H,h1 H,h2⟩
 ·split at h
  ·rename_i v e;obtain ⟨h1,h2⟩:=zW h;simp only [dU,rQ] at h1;exact ⟨.v v,H,.same <| .scalar h1.1.1 h1.1.2 e h1.2,JO (k:=fun c=>K c H) h2⟩
  ·exact cM
 ·obtain ⟨c,h1,h2⟩:=ki h;exact ⟨c,H,h1 H,h2⟩
end
def Co (calls:Bool) (o:Oper):Bool:=
 match o.op with
 | .alloc _ | .box .. | .store .. | .makeSlice .. | .makeMap .. | .mapUpdate .. | .insert .. | .mapEntry .. | .entryStore ..=>true
 | .call cl=>match cl.callee with
  | .builtin .len=>false
  | .builtin _=>true
  | _=>calls
 | _=>false
def xD (o:Oper):Bool:=
 match o.op with
 | .move _ | .assign _ | .pick .. | .fieldAddr .. | .indexAddr .. | .extract .. | .nilCheck _ | .makeFunc .. | .build .. | .buildSlice .. | .slice .. | .index .. | .field .. | .binOp .. | .unOp .. | .convert ..=>true
 | .call cl=>match cl.callee with
  | .builtin .len=>true
  | _=>false
 | _=>false
section
variable {P:Program} {o:Oper} {ρ:Operand->C} {H:zl} {K:C->zl->Prop}
def IH (hb:xD o=true) (h:mB P H ρ o K):∃ c,(∀ H2,u6 P o ρ H2 c H2)∧K c H:=by
 unfold mB at h;split at h
 ·rename_i x ho;exact ⟨_,fun H2=>.same <| .move x (.inl ho),zQ (k:=fun c=>K c H) h⟩
 ·rename_i x ho;exact ⟨_,fun H2=>.same <| .move x (.inr ho),zQ (k:=fun c=>K c H) h⟩
 ·rename_i x y z ho;split at h
  ·rename_i b hb;exact ⟨_,fun H2=>.same <| .pick x y z ho b hb,zQ (k:=fun c=>K c H) h⟩
  ·exact cM
 ·rename_i t ho;simp [xD,ho] at hb
 ·rename_i t x ho;simp [xD,ho] at hb
 ·rename_i t x f ho;exact IP ho h
 ·rename_i t x y ho;obtain ⟨c,h1,h2⟩:=IV (ρ:=fun x=>eV (ρ x)) ho h;exact ⟨c,fun H2=>(h1 H2).eV,h2⟩
 ·rename_i t x y ho;exact IW ho h
 ·rename_i t x f ho;exact IQ ho h
 ·rename_i t x ho;simp [xD,ho] at hb
 ·rename_i t x y ho;simp [xD,ho] at hb
 ·rename_i x n ho;split at h
  ·rename_i vs hx;split at h
   ·rename_i c hc;exact ⟨c,fun H2=>.same <| .extract x n ho hx hc,zQ (k:=fun c=>K c H) (jd (k:=fun c=>qL c fun c=>K c H) h)⟩
   ·exact cM
  ·exact cM
 ·rename_i x ho;exact ⟨_,fun H2=>.same <| .nilCheck x ho (zW h).1,zQ (k:=fun c=>K c H) (zW h).2⟩
 ·rename_i f first caps ho;split at h
  ·have h:=qJ (fun _ _ h=>zQ h) h;exact ⟨_,fun H2=>.same <| .makeFunc _ first caps ho,qJ (fun _ _ h=>zQ h) (k:=fun b=>K (.fn _ (first.toList.map ρ) b) H) h⟩
  ·exact cM
 ·rename_i t parts ho;obtain ⟨cs,hc,h⟩:=Iv h;exact ⟨_,fun H2=>.same <| .build t parts ho hc,h⟩
 ·rename_i t x ho;simp [xD,ho] at hb
 ·rename_i x xT t ok ho;simp [xD,ho] at hb
 ·rename_i t len parts ho;split at h
  ·rename_i c hc;split at h
   ·rename_i o' sz rows;have h:=qJ (fun _ _ h=>qJ (fun _ _ h=>zQ h) h) (k:=fun rows=>ji sz fun sz=>K (.uv o' sz rows) H) h;exact ⟨_,fun H2=>.same <| (qI.buildSlice (ρ:=fun z=>wz (ρ z)) t len parts ho hc).weaken fun z E v hl=>FZ hl,qq (k:=fun sz=>K (.uv o' sz rows) H) h⟩
   ·exact cM
  ·exact cM
 ·rename_i t x lo hi mx ho;obtain ⟨c,h1,h2⟩:=I9 (ρ:=fun x=>eV (ρ x)) ho h;exact ⟨c,fun H2=>(h1 H2).eV,h2⟩
 ·rename_i t x y ho;simp [xD,ho] at hb
 ·rename_i ho;simp [xD,ho] at hb
 ·rename_i ho;simp [xD,ho] at hb
 ·rename_i ho;simp [xD,ho] at hb
 ·rename_i ho;simp [xD,ho] at hb
 ·rename_i cl ho
  have hc:cl.callee=.builtin .len:=by
   simp only [xD,ho] at hb;split at hb
   ·assumption
   ·cases hb
  have hns:xG o=true:=by simp [xG,ho]
  unfold Ec at h;rw [hc] at h;dsimp only at h;split at h
  ·rename_i x t hx ht;split at h
   ·rename_i e hu;split at h
    ·rename_i n hn;exact ⟨_,fun H2=>.eV (ρ:=ρ) <| .same <| .len cl ho hc x (Array.yj hx) (Array.yj ht) hu hn,h⟩
    ·exact cM
   ·rename_i hu;split at h
    ·rename_i s hs;obtain ⟨⟨b⟩⟩:=s;exact ⟨_,fun H2=>.same <| .L4 cl ho hc x (Array.yj hx) (Array.yj ht) hu hs,h⟩
    ·exact cM
   ·split at h
    ·rename_i v e;obtain ⟨h1,h2⟩:=zW h;simp only [dU,rQ] at h1;exact ⟨.v v,fun H2=>.same <| .scalar hns h1.1 e h1.2,jd (k:=fun c=>K c H) h2⟩
    ·exact cM
  ·exact cM
 ·rename_i op t x y t' ho;split at h
  ·rename_i xs ys hx hy;obtain ⟨h1,h⟩:=h;simp only [dU,gX] at h1;split at h
   ·rename_i b hb;split at h
    ·exact ⟨_,fun H2=>.same <| .Dx .eql t t' x y ho (.inl rfl) h1.1 h1.2 hx hy hb,jd (k:=fun c=>K c H) h⟩
    ·exact ⟨_,fun H2=>.same <| .Dx .neq t t' x y ho (.inr rfl) h1.1 h1.2 hx hy hb,jd (k:=fun c=>K c H) h⟩
    ·exact cM
   ·exact cM
  ·rename_i s s' hx hy;obtain ⟨⟨a⟩⟩:=s;obtain ⟨⟨b⟩⟩:=s';exact J3 ho hx hy h
  ·exact ki h
 ·rename_i src dst x ho;exact Ju ho h
 ·split at h
  ·rename_i v e;obtain ⟨h1,h2⟩:=zW h;simp only [dU,rQ] at h1;exact ⟨.v v,fun H2=>.same <| .scalar h1.1.1 h1.1.2 e h1.2,JO (k:=fun c=>K c H) h2⟩
  ·exact cM
 ·exact ki h
end
section
variable {P:Program} {B:Nat} {ops:Array Oper} {md:Region.Mode} {Hs:Nat->zl} {eff:Nat->Bool} {idx:Nat->Nat} {inR:Nat->Nat->Bool}
def BY (md:Region.Mode) (ms:List Nat) (o:Oper):List Nat:=
 ms++[o.after.toList.foldl (fun m e=>if Region.binds md e then m ||| (1 <<< e.on) ||| (ms[e.on]?).getD 0 else m) 0]
def lY (md:Region.Mode) (ops:Array Oper):List Nat:=ops.toList.foldl (BY md) []
def mI (md:Region.Mode) (ops:Array Oper) (ms:List Nat) (j i:Nat):Bool:=Nat.testBit ((ms[j]?).getD 0) i
def JQ {md:Region.Mode} {ms:List Nat} {i:Nat}:∀ {l:List Edge} {m0:Nat},Nat.testBit (l.foldl (fun m e=>if Region.binds md e then m ||| (1 <<< e.on) ||| (ms[e.on]?).getD 0 else m) m0) i=true->
  Nat.testBit m0 i=true∨∃ e ∈ l,Region.binds md e=true∧(e.on=i∨Nat.testBit ((ms[e.on]?).getD 0) i=true)
 | [],m0,h=>.inl h
 | e::l,m0,h=>by
  rw [tt] at h;rcases JQ h with h1 | ⟨e',h1,h2⟩
  ·split at h1
   ·rename_i hb;simp only [Nat.testBit_or,pE] at h1;rcases h1 with (h1 | h1) | h1
    ·exact .inl h1
    ·refine .inr ⟨e,aj,hb,.inl ?_⟩;rw [Nat.testBit_shiftLeft] at h1;simp only [dU,gh] at h1;obtain ⟨h2,h3⟩:=h1;have:=Nat.testBit_one_eq_true_iff_self_eq_zero.1 h3;omega
    ·exact .inr ⟨e,aj,hb,.inr h1⟩
   ·exact .inl h1
  ·exact .inr ⟨e',aD,h2⟩
def oK (md:Region.Mode) (l:List Oper) (ms:List Nat):Prop:=ms.length=l.length∧∀ (j i:Nat),Nat.testBit ((ms[j]?).getD 0) i=true->
  ∃ oj,l[j]?= some oj∧∃ e ∈ oj.after,Region.binds md e=true∧(e.on=i∨(e.on < j∧Nat.testBit ((ms[e.on]?).getD 0) i=true))
def oK.step {md:Region.Mode} {l:List Oper} {ms:List Nat} (h0:oK md l ms) (o:Oper):oK md (l++[o]) (BY md ms o):=by
 obtain ⟨ih1,ih2⟩:=h0;refine ⟨by simp [BY,ih1],?_⟩;intro j i h;unfold BY at h ⊢;by_cases hj:j < ms.length
 ·rw [dT hj] at h;obtain ⟨oj,h1,e,h2,h3,h4⟩:=ih2 j i h;refine ⟨oj,by rw [dT aw];exact h1,e,h2,h3,h4.imp id fun ⟨h5,h6⟩=>⟨h5,?_⟩⟩;rw [dT aw];exact h6
 ·rw [gj aw] at h
  have hj0:j - ms.length=0:=by
   rcases rX (j - ms.length) with h0 | h0
   ·exact h0
   ·rw [pw aA] at h;simp at h
  rw [hj0] at h;simp only [sO,gY] at h;rcases JQ h with h1 | ⟨e,h1,h2,h3⟩
  ·simp at h1
  ·refine ⟨o,by rw [gj aw,<- ih1,hj0];rfl,e,aq h1,h2,h3.imp id fun h4=>?_⟩
   have ux:e.on < ms.length:=by
    rcases rm e.on ms.length with h5 | h5
    ·exact h5
    ·rw [pw h5] at h4;simp at h4
   exact ⟨aw,by rw [dT ux];exact h4⟩
def oK.fold {md:Region.Mode}:∀ {l pre:List Oper} {ms:List Nat},oK md pre ms->oK md (pre++l) (l.foldl (BY md) ms)
 | [],pre,ms,h=>by simpa using h
 | o::l,pre,ms,h=>by
  have:=(h.step o).fold (l:=l);simpa using this
def Ja {md:Region.Mode} (ops:Array Oper):oK md ops.toList (lY md ops):=by
 have:=oK.fold (md:=md) (l:=ops.toList) (pre:=[]) (ms:=[]) ⟨rfl,aj⟩;simpa [lY] using this
def Down (md:Region.Mode) (ops:Array Oper) (listed:Array Bool):Prop:=∀ j oj,ops[j]?= some oj->listed.getD j false=true->∀ e ∈ oj.after,Region.binds md e=true->listed.getD e.on false=true
def Down.start:Down md ops (Array.replicate ops.size false):=fun j oj _ h=>by
 exfalso
 rw [gV,Array.getElem?_replicate] at h;split at h <;> simp at h
def Down.dep {listed:Array Bool} (hd:Down md ops listed) (j i:Nat) (hj:listed.getD j false=true) (h:mI md ops (lY md ops) j i=true):listed.getD i false=true:=by
 induction j using Nat.strongRecOn with
 | _ j ih=>
  obtain ⟨oj,h1,e,h2,h3,h4⟩:=(Ja (md:=md) ops).2 j i h;have h5:=hd j oj tG hj e h2 h3;rcases h4 with rfl | ⟨h6,h7⟩
  ·exact h5
  ·exact ih e.on h6 h5 h7
def Down.ready {listed:Array Bool} (hd:Down md ops listed) {j i:Nat} (hj:j ∈ Region.ready md ops listed) (h:mI md ops (lY md ops) j i=true):listed.getD i false=true:=by
 obtain ⟨_,oj,ho,z7⟩:=mem_ready.1 hj;obtain ⟨oj',h1,e,h2,h3,h4⟩:=(Ja (md:=md) ops).2 j i h
 have e1:oj'=oj:=by
  have:ops[j]?= some oj':=aq h1
  rw [ho] at this;cases this
  rfl
 subst e1;have h5:=z7 e h2 h3;rcases h4 with rfl | ⟨h6,h7⟩
 ·exact h5
 ·exact hd.dep e.on i h5 h7
def Down.step {listed:Array Bool} (hd:Down md ops listed) {i:Nat} (hi:i ∈ Region.ready md ops listed):Down md ops (listed.setIfInBounds i true):=fun j oj ho hj e he hb=>by
 by_cases hji:i=j
 ·subst hji;obtain ⟨_,oi,ho',z7⟩:=mem_ready.1 hi;rw [ho] at ho';cases ho'
  exact getD_set_true (z7 e he hb)
 ·rw [getD_set_ne false hji] at hj;exact getD_set_true (hd j oj ho hj e he hb)
def QA (P:Program) (ops:Array Oper) (Hs:Nat->zl) (r:Nat->Bool) (o:Oper) (c:C) (t:List C):Prop:=
 (jF ops t o=some true∧∀ k,r k=true->u6 P o (ev t) (Hs k) c (Hs k))∨(jF ops t o=some false∧c=.un)
def EA (P:Program) (ops:Array Oper) (H H':zl) (o:Oper) (c:C) (t:List C):Prop:=
 (jF ops t o=some true∧u6 P o (ev t) H c H')∨(jF ops t o=some false∧c=.un∧H'=H)
def QA.put {r:Nat->Bool} {o:Oper} {c x:C} {t:List C} {dst:Option Tmp} (h:∀ d,dst=some d->d ∉ o.looksAt ops):QA P ops Hs r o c (put t dst x)↔QA P ops Hs r o c t:=by
 unfold QA;rw [yU h];constructor
 ·rintro (⟨h1,h2⟩ | h1)
  ·exact .inl ⟨h1,fun k hk=>(u6.put h).1 (h2 k hk)⟩
  ·exact .inr h1
 ·rintro (⟨h1,h2⟩ | h1)
  ·exact .inl ⟨h1,fun k hk=>(u6.put h).2 (h2 k hk)⟩
  ·exact .inr h1
def EA.put {H H':zl} {o:Oper} {c x:C} {t:List C} {dst:Option Tmp} (h:∀ d,dst=some d->d ∉ o.looksAt ops):EA P ops H H' o c (put t dst x)↔EA P ops H H' o c t:=by
 unfold EA;rw [yU h,u6.put h]
def Ei (P:Program) (ops:Array Oper) (Hs:Nat->zl) (eff:Nat->Bool) (idx:Nat->Nat) (inR:Nat->Nat->Bool) (i:Nat) (o:Oper) (c:C) (n':Nat) (t:List C) (n:Nat):Prop:=
 (eff i=false∧inR i n=true∧QA P ops Hs (inR i) o c t∧n'=n)∨(eff i=true∧idx i=n∧EA P ops (Hs n) (Hs (n+1)) o c t∧n'=n+1)
def iT (P:Program) (ops:Array Oper) (Hs:Nat->zl) (eff:Nat->Bool) (idx:Nat->Nat) (inR:Nat->Nat->Bool) (i:Nat) (K:List C->Nat->Prop) (t:List C) (n:Nat):Prop:=
 match ops[i]? with
 | none=>K t n
 | some o=>∃ c n',Ei P ops Hs eff idx inR i o c n' t n∧K (put t o.dst c) n'
def Rg {i:Nat} {t:List C} {n:Nat} {K K':List C->Nat->Prop} (h:∀ t n,K t n->K' t n) (hh:iT P ops Hs eff idx inR i K t n):iT P ops Hs eff idx inR i K' t n:=by
 unfold iT at *;split
 ·exact h _ _ (by simpa [*] using hh)
 ·rename_i o ho;simp only [ho] at hh;obtain ⟨c,n',h1,h2⟩:=hh;exact ⟨c,n',h1,h _ _ h2⟩
def oo (P:Program) (ops:Array Oper) (Hs:Nat->zl) (eff:Nat->Bool) (idx:Nat->Nat) (inR:Nat->Nat->Bool) (Q:List C->Nat->Prop):List Oper->Nat->List C->Nat->Prop
 | [],_,t,n=>Q t n
 | _::l,k,t,n=>iT P ops Hs eff idx inR k (oo P ops Hs eff idx inR Q l (k+1)) t n
def CO (P:Program) (md:Region.Mode) (ops:Array Oper) (Hs:Nat->zl) (eff:Nat->Bool) (idx:Nat->Nat) (inR:Nat->Nat->Bool) (Q:List C->Nat->Prop):Nat->Array Bool->List C->Nat->Prop
 | 0,listed,t,n=>Region.ready md ops listed=[]∧Q t n
 | fuel+1,listed,t,n=>(Region.ready md ops listed=[]->Q t n)∧∀ i ∈ Region.ready md ops listed,iT P ops Hs eff idx inR i (CO P md ops Hs eff idx inR Q fuel (listed.setIfInBounds i true)) t n
def yl {q:Option Nat} {m:Nat} {H0:zl} {Q:List C->Nat->Prop} {w0:World} {E0:Env} {Q':Exit->Act->World->Prop} (hQ:∀ t n w E a,Q t n->xN B m w E ⟨t,Hs n⟩ a->jA B w0 E0 H0 w E (Hs n)->Q' .normal a w):
  ∀ (fuel:Nat) (listed:Array Bool) (t:List C) (n:Nat) (w:World) (E:Env) (a:Act),xN B m w E ⟨t,Hs n⟩ a->jA B w0 E0 H0 w E (Hs n)->CO P md ops Hs eff idx inR Q fuel listed t n->wpAnyIn (fw q) 0 P md ops Q' fuel listed a w
 | 0,_,t,n,w,E,a,hs,hg,h=>⟨h.1,hQ t n w E a h.2 hs hg⟩
 | fuel+1,listed,t,n,w,E,a,hs,hg,h=>⟨fun h0=>hQ t n w E a (h.1 h0) hs hg,fun i hi=>by
   have h1:=h.2 i hi;unfold iT at h1;unfold wpOpIn;split
   ·rename_i ho;simp only [ho] at h1;exact yl hQ fuel _ t n w E a hs hg h1
   ·rename_i o ho;simp only [ho] at h1;obtain ⟨c,n',hf,hK⟩:=h1;rcases hf with ⟨_,hin,⟨hw,hv⟩ | ⟨hw,rfl⟩,rfl⟩ | ⟨_,_,⟨hw,hv⟩ | ⟨hw,rfl,he⟩,rfl⟩
    ·rw [dQ (jQ hs.tmps hw)];exact nD.DW (s:=⟨t,Hs n'⟩) (hv _ hin) q m w E a _ Q' hs fun w' E' a' h2 g2=>yl hQ fuel _ (put t o.dst c) n' w' E' a' h2 (hg.trans g2) hK
    ·rw [dN bt];exact ⟨fun _ _=>trivial,yl hQ fuel _ (put t o.dst .un) n' w E _ (hs.put .un o.dst) hg hK⟩
    ·rw [dQ (jQ hs.tmps hw)];exact nD.DW (s:=⟨t,Hs n⟩) hv q m w E a _ Q' hs fun w' E' a' h2 g2=>yl hQ fuel _ (put t o.dst c) (n+1) w' E' a' h2 (hg.trans g2) hK
    ·rw [dN bt];have hs':=hs.put .un o.dst;exact ⟨fun _ _=>trivial,yl hQ fuel _ (put t o.dst .un) (n+1) w E _ (by rw [he];exact hs') (by rw [he];exact hg) hK⟩⟩
structure Bm (md:Region.Mode) (ops:Array Oper) (eff:Nat->Bool) (idx:Nat->Nat) (inR:Nat->Nat->Bool) (i j:Nat):Prop where
 c1:eff i=false->eff j=true->mI md ops (lY md ops) j i=false->inR i (idx j)=true->inR i (idx j+1)=true
 c2:eff i=true->eff j=false->mI md ops (lY md ops) j i=false->inR j (idx i+1)=true->inR j (idx i)=true
def Rh {i j:Nat} {oi oj:Oper} {c:C} {n ni:Nat} (hj:ops[j]?= some oj) (hap:oi.apart ops oj=true) (he:eff i=true->eff j=false) (hp:Bm md ops eff idx inR i j) (hno:mI md ops (lY md ops) j i=false) {K:List C->Nat->Prop} {t:List C}
  (hf:Ei P ops Hs eff idx inR i oi c ni t n) (h:iT P ops Hs eff idx inR j K (put t oi.dst c) ni):
  iT P ops Hs eff idx inR j (fun t' n'=>∃ n2,Ei P ops Hs eff idx inR i oi c n2 t' n'∧K (put t' oi.dst c) n2) t n:=by
 obtain ⟨h1,h2,h3⟩:=Oper.apart_spec hap;unfold iT at *;simp only [hj] at *;obtain ⟨cj,nj,hfj,hK⟩:=h;rw [put_comm _ _ h2] at hK;rcases hf with ⟨e1,e2,e3,rfl⟩ | ⟨e1,e2,e3,rfl⟩
 ·rcases hfj with ⟨f1,f2,f3,rfl⟩ | ⟨f1,f2,f3,rfl⟩
  ·exact ⟨cj,nj,.inl ⟨f1,f2,(QA.put h1).1 f3,rfl⟩,nj,.inl ⟨e1,e2,(QA.put h3).2 e3,rfl⟩,hK⟩
  ·refine ⟨cj,ni+1,.inr ⟨f1,f2,(EA.put h1).1 f3,rfl⟩,ni+1,.inl ⟨e1,?_,(QA.put h3).2 e3,rfl⟩,hK⟩;rw [<- f2];exact hp.c1 e1 f1 hno (by rw [f2];exact e2)
 ·rcases hfj with ⟨f1,f2,f3,rfl⟩ | ⟨f1,f2,f3,rfl⟩
  ·refine ⟨cj,n,.inl ⟨f1,?_,(QA.put h1).1 f3,rfl⟩,n+1,.inr ⟨e1,e2,(EA.put h3).2 e3,rfl⟩,hK⟩;rw [<- e2];exact hp.c2 e1 f1 hno (by rw [e2];exact f2)
  ·rw [he e1] at f1;cases f1
def OW {Q:List C->Nat->Prop} {i:Nat} {oi:Oper} {c:C} (hi:ops[i]?= some oi):
  ∀ (fuel:Nat) (listed:Array Bool) (t:List C) (n ni:Nat),Down md ops listed->
   (∀ j oj,ops[j]?= some oj->j≠i->listed.getD j true=false->(∀ e ∈ oj.after,Region.binds md e=true->e.on≠i)->oi.apart ops oj=true∧(eff i=true->eff j=false)∧Bm md ops eff idx inR i j)->
   i ∈ Region.ready md ops listed->Ei P ops Hs eff idx inR i oi c ni t n->
   CO P md ops Hs eff idx inR Q fuel (listed.setIfInBounds i true) (put t oi.dst c) ni->CO P md ops Hs eff idx inR Q (fuel+1) listed t n:=by
 intro fuel
 induction fuel with
 | zero=>
  intro listed t n ni _ _ hr hy H;refine ⟨fun h=>bu,fun j hj=>?_⟩;by_cases hji:j=i
  ·subst hji;unfold iT;simp only [hi];exact ⟨c,ni,hy,H⟩
  ·have:=ready_mono hj hji;rw [H.1] at this;cases this
 | succ fuel ih=>
  intro listed t n ni hdown hfree hr hy H;refine ⟨fun h=>bu,fun j hj=>?_⟩;by_cases hji:j=i
  ·subst hji;unfold iT;simp only [hi];exact ⟨c,ni,hy,H⟩
  ·have h1:=H.2 j (ready_mono hj hji);obtain ⟨hjun,oj,hoj,z7⟩:=mem_ready.1 hj
   have hiun:listed.getD i false=false:=by
    have h0:=(mem_ready.1 hr).1;rcases rm i listed.size with h' | h'
    ·simp [h'] at h0 ⊢;exact h0
    ·simp [rF h']
   have hnot:∀ e ∈ oj.after,Region.binds md e=true->e.on≠i:=fun e he hb heq=>by
    have h1:=z7 e he hb;rw [heq,hiun] at h1;cases h1
   have hno:mI md ops (lY md ops) j i=false:=by
    cases hd:mI md ops (lY md ops) j i with
    | false=>rfl
    | true=>have:=hdown.ready hj hd;rw [hiun] at this;cases this
   obtain ⟨hap,hee,hp⟩:=hfree j oj hoj hji hjun hnot;have h2:=Rh hoj hap hee hp hno hy h1
   have hfree':∀ k ok,ops[k]?= some ok->k≠i->(listed.setIfInBounds j true).getD k true=false->
     (∀ e ∈ ok.after,Region.binds md e=true->e.on≠i)->oi.apart ops ok=true∧(eff i=true->eff k=false)∧Bm md ops eff idx inR i k:=fun k ok hk hki hun hno=>by
    refine hfree k ok hk hki ?_ hno;by_cases hjk:j=k
    ·subst hjk;exact hjun
    ·rw [getD_set_ne true hjk] at hun;exact hun
   refine Rg (fun t' n' ⟨n2,h3,h4⟩=>ih (listed.setIfInBounds j true) t' n' n2 (hdown.step hj) hfree' (ready_mono hr (Ne.symm hji)) h3 ?_) h2;rw [sK _ _ hji];exact h4
def KN {Q:List C->Nat->Prop} (hE:oW md ops eff=true) (hP:∀ i j,Bm md ops eff idx inR i j):∀ (l:List Oper) (k:Nat) (listed:Array Bool) (t:List C) (n:Nat),Down md ops listed->(∀ j,l[j]?= ops[k+j]?)->(∀ j,j < k->listed.getD j true=true)->
  Region.lexFrom md ops l.length k listed=true->oo P ops Hs eff idx inR Q l k t n->CO P md ops Hs eff idx inR Q l.length listed t n
 | [],_,_,_,_,_,_,_,hB,h=>⟨by simpa [Region.lexFrom] using hB,h⟩
 | o::l,k,listed,t,n,hd,hl,hk,hB,h=>by
  have h0:ops[k]?= some o:=by simpa using (hl 0).symm
  simp only [pV,Region.lexFrom,dU] at hB;obtain ⟨⟨hr,hf⟩,hB'⟩:=hB;have h':iT P ops Hs eff idx inR k (oo P ops Hs eff idx inR Q l (k+1)) t n:=h;unfold iT at h';simp only [h0] at h';obtain ⟨c,n',hfst,hK⟩:=h';have hr':k ∈ Region.ready md ops listed:=aq hr
  refine OW h0 l.length listed t n n' hd (fun j oj hj hne hun hno=>⟨Region.free_spec h0 hf j oj hj hne hun hno,fun he=>?_,hP k j⟩) hr' hfst
   (KN hE hP l (k+1) _ _ _ (hd.step hr') (fun j=>by have:=hl (j+1);simpa [rp,uh 1 j] using this) ?_ hB' hK)
  ·refine Kh hE he ?_ hj hno;rcases rC j k with ux | heq | ux
   ·rw [hk j ux] at hun;cases hun
   ·exact absurd heq hne
   ·exact ux
  ·intro j hj;by_cases hjk:k=j
   ·subst hjk;by_cases ux:k < listed.size
    ·simp [ux]
    ·simp [ux]
   ·rw [getD_set_ne true hjk];exact hk j aw
def Run.WL {id n':Nat} {t t':List C} {H:zl} (hm:P.follows .mixedOrders=true) (hB:Region.lexB .any ops=true) (hE:oW .any ops eff=true) (hP:∀ i j,Bm .any ops eff idx inR i j) (hH:Hs 0=H)
  (h:oo P ops Hs eff idx inR (fun t n=>t=t'∧n=n') ops.toList 0 t 0):Run P B (.region id ops true) ⟨t,H⟩ .normal ⟨t',Hs n'⟩:=fun q m w E a Q _ hs hq=>by
 simp only [Region.lexB,dU] at hB;subst hH;refine wpIn_region_any hm (yl (Hs:=Hs) (eff:=eff) (idx:=idx) (inR:=inR) (H0:=Hs 0) (Q:=fun t n=>t=t'∧n=n') (w0:=w) (E0:=E) (fun t1 n1 w1 E1 a1 he h1 g1=>by obtain ⟨rfl,rfl⟩:=he;exact hq _ _ w1 E1 a1 ⟨rfl,rfl⟩ h1 g1) _ _ t 0 _ E a hs.drew ((Grow.drew w E (Hs 0)).fA tB) ?_);have:=KN (Hs:=Hs) (eff:=eff) (idx:=idx) (inR:=inR) (Q:=fun t n=>t=t'∧n=n') (P:=P) (md:=.any) hE hP ops.toList 0 (Array.replicate ops.size false) t 0 Down.start aj (fun j hj=>absurd hj (gN j)) (aq hB.2) h;simpa using this
structure ij where
 calls:Bool
 bl:List Nat
 keep:List Nat:=[]
 calm:List Nat:=[]
def mM:List Nat->Nat->Bool
 | [],_=>false
 | x::xs,k=>match Nat.beq x k with | true=>true | false=>mM xs k
def ij.blind (T:ij) (k:Nat):Bool:=mM T.bl k
def ij.Ch (T:ij) (k:Nat):Bool:=match T.calls with | true=>!mM T.calm k | false=>false
def wD (T:ij) (ops:Array Oper) (i:Nat):Bool:=match ops[i]? with | some o=>Co (T.Ch i) o && !T.blind i | none=>false
def yt (T:ij) (ops:Array Oper) (i:Nat):Nat:=((List.range i).filter (wD T ops)).length
def iP (T:ij) (ops:Array Oper) (i k:Nat):Bool:=match ops[i]? with | some o=>(xD o || T.blind i) || k == yt T ops i | none=>true
def GO (md:Region.Mode) (T:ij) (ops:Array Oper) (ms:List Nat):Bool:=
 oW md ops (wD T ops) && (List.range ops.size).all fun i=>(List.range ops.size).all fun j=>
  (!(wD T ops j) || wD T ops i || iP T ops i (yt T ops j+1) || !(iP T ops i (yt T ops j)) || mI md ops ms j i) &&
  (!(wD T ops i) || wD T ops j || iP T ops j (yt T ops i) || !(iP T ops j (yt T ops i+1)) || mI md ops ms j i)
def Bb (md:Region.Mode) (T:ij) (ops:Array Oper):Bool:=GO md T ops (lY md ops)
def QJ {T:ij} (h:Bb md T ops=true) (i j:Nat):Bm md ops (wD T ops) (yt T ops) (iP T ops) i j:=by
 simp only [Bb,GO,dU,dV,pG] at h
 have he:∀ i,wD T ops i=true->i < ops.size:=fun i hi=>by
  unfold wD at hi;split at hi
  ·rename_i o ho;exact (gf.1 ho).1
  ·cases hi
 have hin:∀ i k,¬i < ops.size->iP T ops i k=true:=fun i k hi=>by
  unfold iP;rw [rF aw]
 constructor
 ·intro h1 h2 h3 h4;by_cases hi:i < ops.size
  ·have:=(h.2 i hi j (he j h2)).1;simp only [h1,h2,h3,h4,sR,rh,Bool.or_false] at this;exact dy
  ·exact hin i _ hi
 ·intro h1 h2 h3 h4;by_cases hj:j < ops.size
  ·have:=(h.2 i (he i h1) j hj).2;simp only [h1,h2,h3,h4,sR,rh,Bool.or_false] at this;exact dy
  ·exact hin j _ hj
def Cx (o:Oper):Bool:=match o.op with | .load ..=>true | _=>false
def JG {o:Oper} {ρ:Operand->C} {H:zl} {K:C->zl->Prop} (hb:Cx o=true) (h:mB P H ρ o K):∃ c,u6 P o ρ H c H∧K c H:=by
 unfold Cx at hb;split at hb
 ·rename_i t x ho;unfold mB at h;rw [ho] at h;dsimp only at h;obtain ⟨c,h1,h2⟩:=C0 h;exact ⟨c,.same <| .load t x ho h1,h2⟩
 ·cases hb
def kn (keep:List Nat) (H H':zl):Prop:=∀ id,mM keep id=true->H'[id]?= H[id]?
def kn.refl (keep:List Nat) (H:zl):kn keep H H:=fun _ _=>rfl
def kn.trans {keep:List Nat} {H H' H'':zl} (h:kn keep H H') (h':kn keep H' H''):kn keep H H'':=fun id hi=>(h' id hi).trans (h id hi)
def CF (H H':zl) (k:Prop):List Nat->Prop
 | []=>k
 | id::ids=>H'[id]?= H[id]?∧CF H H' k ids
def C3 {H H':zl} {k:Prop}:∀ {keep:List Nat},CF H H' k keep->kn keep H H'∧k
 | [],h=>⟨fun id hi=>by simp [mM] at hi,h⟩
 | x::xs,h=>by
  obtain ⟨h1,h2⟩:=h;obtain ⟨h3,h4⟩:=C3 h2;refine ⟨fun id hi=>?_,h4⟩;unfold mM at hi;split at hi
  ·rename_i e;obtain rfl:=Nat.eq_of_beq_eq_true e;exact h1
  ·exact h3 id hi
def R7 {H H':zl} {id:Nat} (h:H'[id]?= H[id]?) (hops:List eK):z6 H' id hops=z6 H id hops:=by unfold z6;rw [h]
def QO {H H':zl} {t:TypeId} {id:Nat} {hops:List eK} {sz i k:Nat} (h:H'[id]?= H[id]?):wq P H' t (.ref id hops sz i k)=wq P H t (.ref id hops sz i k):=by
 unfold wq mY;simp only [R7 h]
def DY (P:Program) (keep:List Nat) (H:zl) (ρ:Operand->C) (o:Oper) (K:C->zl->Prop):Prop:=
 match o.op with
 | .load t x=>match ρ x with
  | .jN cells=>Ct P H t (.jN cells) fun c=>K c H
  | .ref id hops sz i k=>bK (mM keep id) <| Ct P H t (.ref id hops sz i k) fun c=>K c H
  | _=>False
 | .call cl=>match cl.callee with
  | .value x=>match ρ x with
   | .fn f first caps=>bK (qp P f) <| ∃ r,(∀ H2,zb P f H2 (first++(cl.args.toList.map fun x=>eV (ρ x))++caps) r H2)∧okB r fun r=>K r H
   | _=>False
  | _=>False
 | .makeSlice t x y=>match ρ x,ρ y with
  | .v (.int _ n),.v (.int _ n')=>match P.underlying t with
   | some (.slice e)=>match P.info? e with
    | some i=>match mE P e with
     | some cs=>bK (cs.all jf) <| n'=n∧0<=n∧(i.bytes:Int) * n<=281474976710656∧n<=9223372036854775807∧ji i.size fun sz=>K (.uv 0 sz (List.replicate n.toNat cs)) H
     | none=>False
    | none=>False
   | _=>False
  | _,_=>False
 | _=>False
def Iu {keep:List Nat} {o:Oper} {ρ:Operand->C} {H:zl} {K:C->zl->Prop} (h:DY P keep H ρ o K):∃ c,(∀ H2,kn keep H H2->u6 P o ρ H2 c H2)∧K c H:=by
 unfold DY at h;split at h
 ·rename_i t x ho;split at h
  ·rename_i cells hx;obtain ⟨c,h1,h2⟩:=C0 h;refine ⟨c,fun H2 _=>.same <| .load t x ho ?_,h2⟩;rw [hx,<- h1]
   rfl
  ·rename_i id hops sz i k hx;obtain ⟨h0,h⟩:=zW h;obtain ⟨c,h1,h2⟩:=C0 h;refine ⟨c,fun H2 hs=>.same <| .load t x ho ?_,h2⟩;rw [hx,<- h1];exact QO (hs id h0)
  ·exact cM
 ·rename_i cl ho;split at h
  ·rename_i x hcl;split at h
   ·rename_i f first caps hf;obtain ⟨h1,r,h2,h3⟩:=zW h;exact ⟨r,fun H2 _=>.GZ cl ho x hcl hf h1 (h2 H2),jd (k:=fun c=>K c H) h3⟩
   ·exact cM
  ·exact cM
 ·rename_i t x y ho;split at h
  ·rename_i k n k' n' hx hy;split at h
   ·rename_i e hu;split at h
    ·rename_i i hi;split at h
     ·rename_i cs hz;obtain ⟨h1,rfl,h2,h3,h4,h5⟩:=zW h;exact ⟨_,fun H2 _=>.same <| .QQ t x y ho hu hi hz h1 hx hy h2 h3 h4,qq (k:=fun sz=>K (.uv 0 sz (List.replicate n'.toNat cs)) H) h5⟩
     ·exact cM
    ·exact cM
   ·exact cM
  ·exact cM
 ·exact cM
def Hr (P:Program) (T:ij) (ops:Array Oper) (o:Oper) (next:Nat->List C->zl->(List C->zl->Prop)->Prop) (k:Nat) (t:List C) (H:zl) (K:List C->zl->Prop):Prop:=
 match jF ops t o with
 | some true=>match T.blind k with
  | true=>DY P T.keep H (ev t) o fun c H'=>lD t o.dst c fun t=>next (k+1) t H K
  | false=>match Co (T.Ch k) o with
   | true=>mB P H (ev t) o fun c H'=>CF H H' (lD t o.dst c fun t=>next (k+1) t H' K) T.keep
   | false=>match xD o || Cx o with
    | true=>mB P H (ev t) o fun c H'=>lD t o.dst c fun t=>next (k+1) t H' K
    | false=>mB P H (ev t) o fun c H'=>H'=H∧lD t o.dst c fun t=>next (k+1) t H K
 | some false=>lD t o.dst .un fun t=>next (k+1) t H K
 | none=>False
def ly (P:Program) (T:ij) (ops:Array Oper) (l:List Oper):Nat->List C->zl->(List C->zl->Prop)->Prop:=
 List.rec (motive:=fun _=>Nat->List C->zl->(List C->zl->Prop)->Prop) (fun _ t H K=>K t H) (fun o _ next=>Hr P T ops o next) l
theorem Rt (T:ij) (o:Oper) (l:List Oper) (k:Nat) (t:List C) (H:zl) (K:List C->zl->Prop):ly P T ops (o::l) k t H K=Hr P T ops o (ly P T ops l) k t H K:=rfl
def Ke (T:ij) (k:Nat):yt T ops (k+1)=yt T ops k+if wD T ops k then 1 else 0:=by
 unfold yt;rw [uo,List.filter_append,gR];cases h:wD T ops k <;> simp [h]
def FV {T:ij} {D:zl}:∀ {l:List Oper} {k:Nat} {t:List C} {H:zl} {K:List C->zl->Prop},(∀ j,l[j]?= ops[k+j]?)->kn T.keep H D->ly P T ops l k t H K->
  ∃ (L:List zl) (t':List C),K t' ((H::L).getLast aj)∧(∀ X ∈ L,kn T.keep H X)∧∀ past:List zl,past.length=yt T ops k->(∀ X ∈ past,kn T.keep H X)->
   oo P ops (fun i=>((past++H::L)[i]?).getD D) (wD T ops) (yt T ops) (iP T ops) (fun t n=>t=t'∧n=yt T ops k+L.length) l k t (yt T ops k)
 | [],k,t,H,K,hl,hD,h=>⟨[],t,h,aj,fun past hp _=>⟨rfl,rfl⟩⟩
 | o::l,k,t,H,K,hl,hD,h=>by
  have h0:ops[k]?= some o:=by simpa using (hl 0).symm
  have hl':∀ j,l[j]?= ops[k+1+j]?:=fun j=>by have:=hl (j+1);simpa [rp,uh 1 j] using this
  have he:wD T ops k=(Co (T.Ch k) o && !T.blind k):=by unfold wD;rw [h0]
  have hin:∀ m,iP T ops k m=((xD o || T.blind k) || m == yt T ops k):=fun m=>by unfold iP;rw [h0]
  have all:∀ (past L:List zl),(∀ X ∈ past,kn T.keep H X)->(∀ X ∈ L,kn T.keep H X)->∀ m:Nat,kn T.keep H (((past++H::L)[m]?).getD D):=fun past L hp hL m=>by
   cases hx:(past++H::L)[m]? with
   | none=>exact hD
   | some X=>
    have:=dO hx;rcases gH.1 this with h1 | h1
    ·exact hp X h1
    ·rcases rq.1 h1 with rfl | h1
     ·exact .refl _ _
     ·exact hL X h1
  have quiet:∀ c,wD T ops k=false->(∀ past L,past.length=yt T ops k->(∀ X ∈ past,kn T.keep H X)->(∀ X ∈ L,kn T.keep H X)->QA P ops (fun i=>((past++H::L)[i]?).getD D) (iP T ops k) o c t)->ly P T ops l (k+1) (put t o.dst c) H K->
    ∃ (L:List zl) (t':List C),K t' ((H::L).getLast aj)∧(∀ X ∈ L,kn T.keep H X)∧∀ past:List zl,past.length=yt T ops k->(∀ X ∈ past,kn T.keep H X)->
     oo P ops (fun i=>((past++H::L)[i]?).getD D) (wD T ops) (yt T ops) (iP T ops) (fun t n=>t=t'∧n=yt T ops k+L.length) (o::l) k t (yt T ops k):=fun c ht hq hK=>by
   obtain ⟨L,t',h1,hL,h2⟩:=FV hl' hD hK;have hc:yt T ops (k+1)=yt T ops k:=by rw [Ke,ht];rfl
   rw [hc] at h2;refine ⟨L,t',h1,hL,fun past hp hs=>?_⟩;unfold oo iT;rw [h0];exact ⟨c,_,.inl ⟨ht,by rw [hin];simp,hq past L hp hs hL,rfl⟩,h2 past hp hs⟩
  have iM:∀ c H',wD T ops k=true->EA P ops H H' o c t->kn T.keep H H'->ly P T ops l (k+1) (put t o.dst c) H' K->
    ∃ (L:List zl) (t':List C),K t' ((H::L).getLast aj)∧(∀ X ∈ L,kn T.keep H X)∧∀ past:List zl,past.length=yt T ops k->(∀ X ∈ past,kn T.keep H X)->
     oo P ops (fun i=>((past++H::L)[i]?).getD D) (wD T ops) (yt T ops) (iP T ops) (fun t n=>t=t'∧n=yt T ops k+L.length) (o::l) k t (yt T ops k):=fun c H' ht hq hsm hK=>by
   have back:kn T.keep H' H:=fun id hi=>(hsm id hi).symm
   obtain ⟨L,t',h1,hL,h2⟩:=FV hl' (back.trans hD) hK;have hc:yt T ops (k+1)=yt T ops k+1:=by rw [Ke,ht];rfl
   rw [hc] at h2;refine ⟨H'::L,t',aq h1,fun X hX=>?_,fun past hp hs=>?_⟩
   ·rcases rq.1 hX with rfl | hX
    ·exact hsm
    ·exact hsm.trans (hL X hX)
   have h3:=h2 (past++[H]) (by simp [hp]) (fun X hX=>by
    rcases gH.1 hX with h | h
    ·exact back.trans (hs X h)
    ·rw [gI.1 h];exact back)
   unfold oo iT;rw [h0];refine ⟨c,yt T ops k+1,.inr ⟨ht,rfl,?_,rfl⟩,?_⟩
   ·have e1:((past++H::H'::L)[yt T ops k]?).getD D=H:=by rw [<- hp];simp
    have e2:((past++H::H'::L)[yt T ops k+1]?).getD D=H':=by rw [<- hp,gj aw];simp
    dsimp only;rw [e1,e2];exact hq
   ·simpa [pQ,rp,uh 1] using h3
  have same:∀ (past L:List zl),past.length=yt T ops k->((past++H::L)[yt T ops k]?).getD D=H:=fun past L hp=>by rw [<- hp];simp
  rw [Rt] at h;unfold Hr at h;split at h
  ·rename_i hw;cases hbl:T.blind k with
   | true=>
    rw [hbl] at h;obtain ⟨c,h1,h2⟩:=Iu h;exact quiet c (by rw [he,hbl];simp) (fun past L _ hs hL=>.inl ⟨hw,fun m _=>h1 _ (all past L hs hL m)⟩) (jJ (k:=fun t=>ly P T ops l (k+1) t H K) h2)
   | false=>
   rw [hbl] at h;simp only at h;have he2:wD T ops k=Co (T.Ch k) o:=by rw [he,hbl];simp
   cases ht:Co (T.Ch k) o with
   | true=>
    rw [ht] at h;obtain ⟨c,H',h1,h2⟩:=Fc h;obtain ⟨h3,h4⟩:=C3 h2;exact iM c H' (he2.trans ht) (.inl ⟨hw,h1⟩) h3 (jJ (k:=fun t=>ly P T ops l (k+1) t H' K) h4)
   | false=>
    rw [ht] at h;simp only at h;cases hb:xD o with
    | true=>
     rw [hb,uj] at h;obtain ⟨c,h1,h2⟩:=IH hb h;exact quiet c (he2.trans ht) (fun past L _ _ _=>.inl ⟨hw,fun m _=>h1 _⟩) (jJ (k:=fun t=>ly P T ops l (k+1) t H K) h2)
    | false=>
     rw [hb,rh] at h
     have only:∀ c,u6 P o (ev t) H c H->∀ past L,past.length=yt T ops k->(∀ X ∈ past,kn T.keep H X)->(∀ X ∈ L,kn T.keep H X)->QA P ops (fun i=>((past++H::L)[i]?).getD D) (iP T ops k) o c t:=fun c h1 past L hp _ _=>.inl ⟨hw,fun m hm=>by
      rw [hin,hb,hbl,rh,rh,gT] at hm;subst hm;dsimp only;rw [same past L hp];exact h1⟩
     cases hlo:Cx o with
     | true=>
      rw [hlo] at h;obtain ⟨c,h1,h2⟩:=JG hlo h;exact quiet c (he2.trans ht) (only c h1) (jJ (k:=fun t=>ly P T ops l (k+1) t H K) h2)
     | false=>
      rw [hlo] at h;obtain ⟨c,H',h1,rfl,h2⟩:=Fc h;exact quiet c (he2.trans ht) (only c h1) (jJ (k:=fun t=>ly P T ops l (k+1) t _ K) h2)
  ·rename_i hw;have hK:=jJ (k:=fun t=>ly P T ops l (k+1) t H K) h;cases ht:wD T ops k with
   | true=>exact iM .un H ht (.inr ⟨hw,rfl,rfl⟩) (.refl _ _) hK
   | false=>exact quiet .un ht (fun past L _ _ _=>.inr ⟨hw,rfl⟩) hK
  ·exact cM
def Run.V6 {id:Nat} {T:ij} {t:List C} {H:zl} {K:List C->zl->Prop} (hm:P.follows .mixedOrders=true) (hB:Region.lexB .any ops=true) (hT:Bb .any T ops=true) (h:ly P T ops ops.toList 0 t H K):
  ∃ s',Run P B (.region id ops true) ⟨t,H⟩ .normal s'∧K s'.tmps s'.H:=by
 obtain ⟨L,t',h1,_,h2⟩:=FV (k:=0) (D:=H) aj (.refl _ _) h;have h3:=h2 [] rfl aj;have hE:oW .any ops (wD T ops)=true:=by simp only [Bb,GO,dU] at hT;exact hT.1
 have:=Run.WL (B:=B) (id:=id) (Hs:=fun i=>((H::L)[i]?).getD H) (eff:=wD T ops) (idx:=yt T ops) (inR:=iP T ops) (n':=L.length) (t':=t') hm hB hE (fun i j=>QJ hT i j) rfl (by simpa [yt] using h3);refine ⟨_,this,?_⟩
 have e:((H::L)[L.length]?).getD H=(H::L).getLast aj:=by
  rw [List.getLast_eq_getElem];simp
 dsimp only;rw [e];exact h1
end
def AQ:C->Bool
 | .agg cs=>cs.all jf
 | c=>jf c
def qP (H:zl):Bool:=H.all fun ob=>match ob.kind with
 | 1=>ob.rows.all fun r=>r.all zy
 | 4=>ob.fz == 0 || (match ob.rows with | [.rc _::t]=>t.all AQ | _=>false)
 | _=>true
def wN {H:zl} {id:Nat} {ty:TypeId} {sz fz:Nat} {r r':List C} (hob:H[id]?= some ⟨1,ty,sz,[r],fz⟩) (hno:r.all zy=true) (hno':r'.all zy=true) {id':Nat} {p:List eK} {x:Nat × List (List C)}
  (h:z6 (H.set id ⟨1,ty,sz,[r'],fz⟩) id' p=some x):(id'≠id∧z6 H id' p=some x)∨(id'=id∧p=[]∧x=(sz,[r'])∧z6 H id []=some (sz,[r])):=by
 obtain ⟨ob,ho,hk,hg⟩:=jc h;by_cases hi:id'=id
 ·subst hi
  right
  rw [dY,dQ rfl,dQ (dL.1 hob).1] at ho;cases ho
  obtain ⟨rfl,rfl⟩:=kQ (fun i k c hc=>by
   obtain ⟨rfl,hc⟩:=yN.1 hc;exact dV.1 hno' c (dO hc)) hg
  exact ⟨rfl,rfl,rfl,by unfold z6;rw [hob];simp [qQ]⟩
 ·left
  refine ⟨hi,?_⟩;rw [dY,dN (Ne.symm hi)] at ho;unfold z6;rw [ho];simp only [hk,if_true];exact hg
def qd.Cq {w:World} {E:Env} {H:zl} (h:qd w E H) {id:Nat} {ty:TypeId} {sz fz:Nat} {r r':List C} (hob:H[id]?= some ⟨1,ty,sz,[r],fz⟩) (hlen:r'.length=r.length) (hno:r.all zy=true) (hno':r'.all zy=true)
  (hc:∀ (k:Nat) c c' u,r[k]?= some c->r'[k]?= some c'->L E c u->w.cell? ⟨E.β id [],k,none⟩=some u->L E c' u):qd w E (H.set id ⟨1,ty,sz,[r'],fz⟩) where
 n:=aq h.n
 u9 id' ob p sz' rows' hob' hx:=by
  rcases wN hob hno hno' hx with ⟨h1,h2⟩ | ⟨rfl,rfl,h1,h2⟩
  ·rw [dY,dN (Ne.symm h1)] at hob';exact h.u9 id' ob p sz' rows' hob' h2
  ·rw [dY,dQ rfl,dQ (dL.1 hob).1] at hob';cases hob'
   cases h1
   have hb:=h.u9 _ _ _ _ _ hob h2;refine ⟨hb.len,fun q hq=>?_,?_⟩
   ·rw [gI.1 hq,hlen];exact hb.row r (gI.2 rfl)
   ·obtain ⟨cur,e,h3,h4,h5⟩:=hb.u9;refine ⟨cur,e,h3,h4,?_⟩;intro i k c' hc';obtain ⟨rfl,hc'⟩:=yN.1 hc';have hk:k < r.length:=by rw [<- hlen];exact (dL.1 hc').1
    have hk':r[k]?= some r[k]:=by simp [hk]
    obtain ⟨u,hu,ho⟩:=h5 0 k r[k] (yN.2 ⟨rfl,hk'⟩);refine ⟨u,hu,?_⟩;rw [qT.loose (dV.1 hno _ (dO hk'))] at ho;rw [qT.loose (dV.1 hno' c' (dO hc'))];refine ⟨?_,ho.2⟩;have h6:L E r[k] u:=aF
    have h7:L E c' u:=hc k _ _ u hk' hc' h6 (by
     unfold World.cell?;rw [h3];simpa using hu)
    simpa [Env.at] using h7
 inj i p j q x y hx hy he:=by
  have key:∀ i p x,z6 (H.set id ⟨1,ty,sz,[r'],fz⟩) i p=some x->∃ x',z6 H i p=some x':=fun i p x hx=>by
   rcases wN hob hno hno' hx with ⟨h1,h2⟩ | ⟨rfl,rfl,h1,h2⟩
   ·exact ⟨x,h2⟩
   ·exact ⟨_,h2⟩
  obtain ⟨x',hx'⟩:=key i p x hx;obtain ⟨y',hy'⟩:=key j q y hy;exact h.inj i p j q x' y' hx' hy' he
 qs:=h.qs
 sep i p x o u hx hu:=by
  rcases wN hob hno hno' hx with ⟨h1,h2⟩ | ⟨rfl,rfl,h1,h2⟩
  ·obtain ⟨e1,ob,e2,e3⟩:=h.sep i p x o u h2 hu;exact ⟨e1,ob,by rw [dY,dN (Ne.symm h1)];exact e2,e3⟩
  ·obtain ⟨e1,ob,e2,e3⟩:=h.sep _ [] _ o u h2 hu;rw [hob] at e2;cases e2
   exact ⟨rfl,⟨1,ty,sz,[r'],fz⟩,by rw [dY,dQ rfl,dQ (dL.1 hob).1],e3⟩
 ty i ob ho hk:=by
  rw [dY] at ho;split at ho
  ·split at ho
   ·cases ho;cases hk
   ·cases ho
  ·exact h.ty i ob ho hk
 fz i ob ho:=by
  rw [dY] at ho;split at ho
  ·split at ho
   ·cases ho;have:=h.fz id _ hob;exact dy
   ·cases ho
  ·exact h.fz i ob ho
def jD.Ms {H:zl} {id:Nat} {ob ob':Ob} (hob:H[id]?= some ob) (h1:ob.kind≠4) (h2:ob'.kind≠4):jD H (H.set id ob'):=fun i o h4=>by
 rw [dY];split
 ·rename_i e;subst e;rw [dQ (dL.1 hob).1,hob];constructor
  ·intro e;cases e;exact absurd h4 h2
  ·intro e;cases e;exact absurd h4 h1
 ·exact Iff.rfl
def qu.Cq {w:World} {E:Env} {H:zl} (h:qu w E H) {id:Nat} {ty:TypeId} {sz fz:Nat} {r r':List C} (hob:H[id]?= some ⟨1,ty,sz,[r],fz⟩) (hlen:r'.length=r.length) (hno:r.all zy=true) (hno':r'.all zy=true)
  (hc:∀ (k:Nat) c c' u,r[k]?= some c->r'[k]?= some c'->L E c u->w.cell? ⟨E.β id [],k,none⟩=some u->L E c' u):qu w E (H.set id ⟨1,ty,sz,[r'],fz⟩)∧Grow w E H w E (H.set id ⟨1,ty,sz,[r'],fz⟩):=by
 have hR:=h.base.Cq hob hlen hno hno' hc
 have hG:qB w E H w E (H.set id ⟨1,ty,sz,[r'],fz⟩):=⟨Env.le.refl E,fun _ _ _=>rfl,rfl,rfl,rfl,dW _,fun _ _ _=>rfl,fun _ _ _ h=>.inl h,fun b ⟨i,p,x,hx,he⟩=>by
  rcases wN hob hno hno' hx with ⟨h1,h2⟩ | ⟨rfl,rfl,h1,h2⟩
  ·exact .inr ⟨i,p,x,h2,he⟩
  ·exact .inr ⟨_,[],_,h2,he⟩⟩
 have hk:=jD.Ms (ob':=⟨1,ty,sz,[r'],fz⟩) hob (fun e=>by cases e) (fun e=>by cases e);exact ⟨⟨hR,iZ.step h hG hk⟩,hG.up h hk⟩
section
variable {B:Nat} {s:S}
def zo.var (id:Nat) {ty:TypeId} {sz fz:Nat} {r r':List C} (hob:s.H[id]?= some ⟨1,ty,sz,[r],fz⟩) (hno:r.all zy=true) (hno':r'.all zy=true) (hw:fJ r r'):zo B s ⟨s.tmps,s.H.set id ⟨1,ty,sz,[r'],fz⟩⟩:=fun m w E a hs=>by
 have hlen:∀ {a b:List C},fJ a b->b.length=a.length:=by
  intro a b h
  induction h with
  | nil=>rfl
  | cons _ _ ih=>simp [ih]
 have hget:∀ {a b:List C},fJ a b->∀ (k:Nat) c c',a[k]?= some c->b[k]?= some c'->WC c c':=by
  intro a b h
  induction h with
  | nil=>intro k c c' h;simp at h
  | cons h1 _ ih=>
   intro k c c' e1 e2;cases k with
   | zero=>simp at e1 e2;subst e1 e2;exact h1
   | succ k=>exact ih k c c' (aq e1) uY
 obtain ⟨hR,g⟩:=hs.heap.Cq hob (hlen hw) hno hno' fun k c c' u e1 e2 hl _=>hget hw k c c' e1 e2 E u hl
 exact ⟨E,⟨hR,hs.tmps,hs.defers,aq hs.base⟩,g.fA tB⟩
def zo.nv (id k:Nat) (ty':TypeId) (sz':Nat) {ty:TypeId} {sz fz sz0:Nat} {r:List C} {rows:List (List C)} (hob:s.H[id]?= some ⟨1,ty,sz,[r],fz⟩) (hk:r[k]?= some (.uv 1 sz0 rows)) (hz:rows=[]∨sz'=sz0) (hno:r.all zy=true)
  (hno':(r.set k (.gl s.H.length sz' rows)).all zy=true):
  zo B s ⟨s.tmps,s.H.set id ⟨1,ty,sz,[r.set k (.gl s.H.length sz' rows)],fz⟩++[⟨4,ty',sz',rows,0⟩]⟩:=fun m w E a hs=>by
 have hgb:z6 s.H id []=some (sz,[r]):=by unfold z6;rw [hob];simp [qQ]
 have hb:=hs.heap.base.u9 _ _ _ _ _ hob hgb;obtain ⟨cur,e,h3,h4,h5⟩:=hb.u9;obtain ⟨u,hu,ho⟩:=h5 0 k _ (yN.2 ⟨rfl,hk⟩);rw [qT.loose rfl] at ho;have hl:L E (.uv 1 sz0 rows) u:=aF
 obtain ⟨E1,hh1,hl1,g1⟩:=hs.heap.Dc hl ty' hz;have ux:id < s.H.length:=(dL.1 hob).1;have hob1:(s.H++[⟨4,ty',sz',rows,0⟩])[id]?= some ⟨1,ty,sz,[r],fz⟩:=by rw [dT ux];exact hob
 have hβ:E1.β id []=E.β id []:=g1.le.β id [] (by rw [hs.heap.n];exact ux)
 have hcu:w.cell? ⟨E1.β id [],k,none⟩=some u:=by
  unfold World.cell?;rw [hβ,h3];simpa using hu
 obtain ⟨hR,g2⟩:=hh1.Cq hob1 (r':=r.set k (.gl s.H.length sz' rows)) aj hno hno' fun j c c' v e1 e2 hl' hv=>by
  rw [dY] at e2;split at e2
  ·rename_i e;subst e;rw [hcu] at hv;cases hv
   split at e2
   ·cases e2;exact hl1
   ·cases e2
  ·rw [e1] at e2;cases e2
   exact hl'
 rw [sZ _ _ ux] at hR g2;exact c8
end
def Fv (w:World) (o:Obj) {k:Nat} (h:k < w.heap.size):(w.alloc o).heap[k]?= w.heap[k]?:=by
 show (w.heap.push o)[k]?= _;rw [Array.getElem?_push,dN aw]
def Rr {P:Program} {g:Operand} {ps:Array Tmp} {assign body:Code} {B m:Nat} {H:zl} {t:List C} {f:FuncId} {caps:List C} {w:World} {E:Env} {a:Act} {Q:Exit->Act->World->Prop}
  (hs:xN B m w E ⟨t,H⟩ a) (hg:ev t g=.fn f [] caps) (hcb:qp P f=true)
  (hit:∀ (l:Nat) (r:Loop),r.state=.ready->r.pending=none->r.params=ps->r.assign=assign->r.body=body->
   ∃ (rr:C) (Hf:zl) (rf:Loop),zb P f (H++[fh l r t]) (.v (.func (.yield l) #[] #[])::caps) rr Hf∧Hf[H.length]?= some (fh l rf t)∧rf.state≠.busy∧rf.tmps=r.tmps∧B<=Hf.length∧
   ∀ w' E' a',xN B m w' E' ⟨t,Hf.set H.length (fh l { rf with state:=.exhausted } t)⟩ a'->jA B w E H w' E' (Hf.set H.length (fh l { rf with state:=.exhausted } t))->
    match rf.pending with | none=>Q .normal a' w' | some c=>c.wpIn (fw none) 0 P Q a' w'):
  (Code.rangeFunc g ps assign body).wpIn (fw none) 0 P Q a w:=by
 have hm:=hs.defers.le;refine wpIn_rangeFunc ?_;intro fn _;obtain ⟨r,hr⟩:∃ r:Loop,r={ state:=.ready,pending:=none,fn,tmps:=a.tmps,params:=ps,assign,body,defers:=w.heap.size }:=⟨_,rfl⟩;obtain ⟨W1,hW1⟩:∃ W1,W1=(w.alloc (.deferred (some []))).alloc (.loop r):=⟨_,rfl⟩
 have hL1:W1.heap[w.heap.size+1]?= some (.loop r):=by
  rw [hW1];have:=World.alloc_heap_new (w.alloc (.deferred (some []))) (.loop r);rwa [World.size_alloc] at this
 have hK1:W1.heap[w.heap.size]?= some (.deferred (some [])):=by
  rw [hW1];exact (Fv _ _ aj).trans (World.alloc_heap_new w _)
 have hsame:∀ k,k < w.heap.size->W1.heap[k]?= w.heap[k]?:=fun k hk=>by
  rw [hW1];exact (Fv _ _ aA).trans (Fv _ _ hk)
 have hsz:W1.heap.size=w.heap.size+2:=by rw [hW1];simp
 have hv:=CG hs.tmps g;rw [hg] at hv
 obtain ⟨zs,hσ,hzs⟩:∃ zs,a.eval g=.func (.func f) #[] zs∧LL E caps zs.toList:=by
  generalize a.eval g=u at *;cases hv with
  | fn f first caps ys zs h1 h2 h3 h4=>
   have:ys= #[]:=aq h1.symm
   subst this;exact ⟨zs,rfl,aq h2,fun i c y e1 e2=>h4 i c y e1 uY⟩
 obtain ⟨E1,hR1,G1⟩:=hs.heap.Va (w:=W1) (l:=w.heap.size+1) (r:=r) (t:=t) hsame (by rw [hW1];rfl) (by rw [hW1];rfl) (by rw [hW1];rfl) aw hL1 aw (by rw [hr];exact hs.tmps);obtain ⟨rr,Hf,rf,hS,hHf,hbusy,htm,hB,hQ⟩:=hit (w.heap.size+1) r (by rw [hr]) (by rw [hr]) (by rw [hr]) (by rw [hr]) (by rw [hr])
 have eg:∀ (args:Array Value),(callFunc f args).run P W1=.ok (.enter f args) W1:=by
  intro args;unfold qp at hcb;split at hcb
  rotate_left
  ·cases hcb
  rename_i fn hfn;simp only [dU,gX] at hcb;have hname : fn.name ≠ "runtime.NumGoroutine" := by simpa using hcb.1
  have hbody:fn.body≠none:=bE
  simp [callFunc,hfn,hname,hbody]
 refine ⟨w.heap.size+1,[o7 w.heap.size],W1,{ target:=.fn (.func f) zs,args:= #[.func (.yield (w.heap.size+1)) #[] #[]] },W1,f, #[.func (.yield (w.heap.size+1)) #[] #[]]++zs,W1,?_,?_,fun _ _=>trivial,?_,fun h=>aS,?_⟩
 ·rw [hW1,hr];exact run_enterLoop_outer _ _ _ _ _
 ·simp only [resolve,hσ];simp [go_sem]
 ·simp [invoke,go_sem,eg]
 ·refine (callsIn_wide (n:=0)).2 ((hS W1 E1 _ hR1 ?_).mono ?_)
  ·have:=(LL.one (.v _ rfl:L E1 (.v (.func (.yield (w.heap.size+1)) #[] #[])) (.func (.yield (w.heap.size+1)) #[] #[]))).append (hzs.mono G1.le);simpa using this
  ·rintro e w3 ⟨v,E3,rfl,hR3,_,G3⟩;obtain ⟨⟨hL3,_⟩,ht3⟩:=hR3.uy.fy H.length _ (.loop rf) t hHf rfl ⟨rfl,rfl⟩;obtain ⟨hR4,G4⟩:=hR3.DH (r':={ rf with state:=.exhausted }) hHf rfl;have hend:=run_endLoop (P:=P) hL3 hbusy;have G:=(G1.trans G3).trans G4;have hn:B<=E.n:=by rw [hs.heap.n];exact hs.base
   have hD:(w3.putObj (w.heap.size+1) (.loop { rf with state:=.exhausted })).heap[w.heap.size]?= some (.deferred (some [])):=by
    rw [World.putObj_heap_other aw];exact (G3.frame _ aw (hR1.free hK1)).trans hK1
   have h4:xN B m (w3.putObj (w.heap.size+1) (.loop { rf with state:=.exhausted })) E3 ⟨t,Hf.set H.length (fh (w.heap.size+1) { rf with state:=.exhausted } t)⟩ { a with defers:=[o7 w.heap.size]++a.defers }:=by
    refine ⟨hR4,hs.tmps.mono G.le,⟨⟨w.heap.size,rfl,hm,hD,?_⟩,hs.defers.grow hs.heap G⟩,aq hB⟩;intro hmem
    have key:∀ {ds:List Deferred},Marks m w ds->o7 w.heap.size ∉ ds:=by
     intro ds
     induction ds with
     | nil=>intro _ h;cases h
     | cons d ds ih=>
      rintro ⟨⟨D,h1,_,h3,_⟩,ht⟩ h;rcases rq.1 h with h5 | h5
      ·rw [h1] at h5;have:w.heap.size=D:=by simpa [o7] using h5
       have:=(gf.1 h3).1;omega
      ·exact ih ht h5
    exact key hs.defers hmem
   have:=hQ _ _ _ h4 (G.fA hn);refine ⟨rf.pending,_,hend,?_⟩;exact dy
def My:Option Code->Exit->Prop
 | none,.normal=>True
 | some .ret,.ret=>True
 | some (.exit i),.exit j=>i=j
 | _,_=>False
def qW.rangeFunc {P:Program} {g:Operand} {ps:Array Tmp} {assign body:Code} {B:Nat} {H:zl} {t:List C} {f:FuncId} {caps:List C} {R:Exit->S->Prop} (hg:ev t g=.fn f [] caps) (hcb:qp P f=true)
  (hit:∀ (l:Nat) (r:Loop),r.state=.ready->r.pending=none->r.params=ps->r.assign=assign->r.body=body->
   ∃ (rr:C) (Hf:zl) (rf:Loop) (ex:Exit) (s':S),zb P f (H++[fh l r t]) (.v (.func (.yield l) #[] #[])::caps) rr Hf∧Hf[H.length]?= some (fh l rf t)∧rf.state≠.busy∧rf.tmps=r.tmps∧B<=Hf.length∧My rf.pending ex∧
    zo B ⟨t,Hf.set H.length (fh l { rf with state:=.exhausted } t)⟩ s'∧R ex s'):qW P B (.rangeFunc g ps assign body) ⟨t,H⟩ R:=fun q m w E a Q hr hs hq=>by
 obtain rfl:=hr rfl;refine Rr hs hg hcb fun l r h1 h2 h3 h4 h5=>?_
 obtain ⟨rr,Hf,rf,ex,s',a1,a2,a3,a4,a5,a6,a7,a8⟩:=hit l r h1 h2 h3 h4 h5;refine ⟨rr,Hf,rf,a1,a2,a3,a4,a5,fun w' E' a' hs' g'=>?_⟩;obtain ⟨E2,hs2,g2⟩:=a7 m w' E' a' hs';have hq':=hq ex s' w' E2 a' a8 hs2 (g'.trans g2);generalize rf.pending=pe at a6
 match pe,ex,a6 with
 | none,.normal,_=>exact hq'
 | some .ret,.ret,_=>exact wpIn_ret hq'
 | some (.exit i),.exit j,h=>cases h;exact wpIn_exit hq'
def K6 (o:Oper):Option TypeId:=match o.op with
 | .makeMap t r=>match r with
  | none=>some t
  | some _=>none
 | _=>none
def U4 (P:Program) (t:TypeId):Bool:=match P.underlying t with
 | some (.map _ e)=>match P.underlying e with
  | some (.int _)=>false
  | some .bool=>false
  | some .string=>false
  | _=>true
 | _=>false
noncomputable def hasC (H:zl):Bool:=List.rec (motive:=fun _=>Bool) false (fun ob _ next=>match ob with
 | ⟨kind,_,sz,_,fz⟩=>match kind with
  | 4=>match sz with
   | 2=>match fz with
    | 1=>true
    | _=>next
   | _=>next
  | _=>next) H
noncomputable def mapRel (H:zl) (ρ:Operand->C) (o:Oper):Bool:=match o.op with
 | .range _ _=>true
 | .next _ _=>true
 | .entry _=>true
 | .insert _ _ _ _=>true
 | .mapUpdate _ _ _ _=>hasC H
 | .call cl=>match cl.callee with
  | .builtin b=>match b with
   | .delete=>true
   | .append=>match cl.args.toList with
    | x::_=>match ρ x with
     | .gl _ _ _=>hasC H
     | .uv _ sz _=>match sz with
      | 99=>true
      | _=>false
     | _=>false
    | []=>false
   | _=>false
  | _=>false
 | _=>false
def WU (P:Program) (t:TypeId):Bool:=
 match P.underlying t with
 | some (.pointer _)=>true
 | some (.map _ _)=>true
 | some (.tuple es)=>match es.toList with
  | u::_=>match P.underlying u with
   | some (.pointer _)=>true
   | _=>false
  | []=>false
 | _=>false
def Mz (P:Program) (ρ:Operand->C) (o:Oper):Option (FuncId × List C):=
 match o.op with
 | .call cl=>match cl.callee with
  | .value x=>match ρ x with
   | .fn f first caps=>match qp P f with
    | true=>some (f,first++(cl.args.toList.map fun x=>eV (ρ x))++caps)
    | false=>none
   | _=>none
  | _=>none
 | _=>none
def G6 (P:Program) (ρ:Operand->C) (o:Oper):Option (FuncId × List C):=
 match WU P o.type with
 | true=>Mz P ρ o
 | false=>none
def jE.call {P:Program} {H:zl} {ρ:Operand->C} {o:Oper} {f:FuncId} {args:List C} {R:C->zl->Prop} (h:G6 P ρ o=some (f,args)) (hs:qC P f H args R):jE P o ρ H R:=fun w E σ hh hl _ K hk=>by
 unfold G6 at h;split at h
 rotate_left
 ·cases h
 unfold Mz at h;split at h
 rotate_left
 ·cases h
 rename_i cl ho;split at h
 rotate_left
 ·cases h
 rename_i x hcl;split at h
 rotate_left
 ·cases h
 rename_i f' first caps hf;split at h
 rotate_left
 ·cases h
 rename_i hcb;cases h
 have hl:∀ x ∈ o.op.operands,L E (Ab.eV (ρ x)) (σ x):=fun x hx=>nu (hl x hx)
 have h0:=hl x bD;rw [hf] at h0;have h0:L E (.fn f first caps) (σ x):=h0
 obtain ⟨ys,zs,hv,h1,h2,h3,h4⟩:∃ ys zs,σ x=.func (.func f) ys zs∧first.length=ys.size∧caps.length=zs.size∧(∀ (i:Nat) c y,first[i]?= some c->ys[i]?= some y->L E c y)∧(∀ (i:Nat) c y,caps[i]?= some c->zs[i]?= some y->L E c y):=by
  generalize σ x=u at *;cases h0 with
  | fn f first caps ys zs h1 h2 h3 h4=>exact ⟨ys,zs,rfl,h1,h2,h3,h4⟩
 unfold qp at hcb;split at hcb
 rotate_left
 ·cases hcb
 rename_i fn hfn;simp only [dU,gX] at hcb;have hname : fn.name ≠ "runtime.NumGoroutine" := by simpa using hcb.1
 have hbody:fn.body≠none:=bE
 have hr:(execOp σ o).run P w=.ok (.enter f (ys++cl.args.map σ++zs)) w:=by
  unfold execOp;simp [ho,resolve,hcl,hv,Deferred.ofValue,invoke,callFunc,hfn,hname,hbody]
 rw [hr];refine (hs w E (ys++cl.args.map σ++zs) hh ?_).mono ?_
 ·have e1:LL E first ys.toList:=⟨aq h1,fun i c y e1 e2=>h3 i c y e1 uY⟩;have e2:LL E caps zs.toList:=⟨aq h2,fun i c y e1 e2=>h4 i c y e1 uY⟩
  have e3:LL E (cl.args.toList.map fun x=>Ab.eV (ρ x)) (cl.args.map σ).toList:=by
   refine ⟨aj,?_⟩;intro i c y hc hy;rw [dP] at hc;rw [sW,dP] at hy;cases ha:cl.args.toList[i]? with
   | none=>rw [ha] at hc;cases hc
   | some a=>
    rw [ha] at hc hy;cases hc
    cases hy
    exact dA
  have:=(e1.append e3).append e2;simpa using this
 ·rintro e w' ⟨c,H',v,E',hR,rfl,h5,h6,h7⟩;exact ⟨v,rfl,hk c H' v w' E' hR h5 h6 h7⟩
def Hk (o:Oper):Option (BinOp × TypeId × Operand):=
 match o.op with
 | .binOp op t x y _=>match y with
  | .const v=>match v with
   | .nilFunc=>some (op,t,x)
   | _=>none
  | _=>none
 | _=>none
def GS (x:C):Option Bool:=
 match x with
 | .fn ..=>some false
 | .v y=>match y with
  | .nilFunc=>some true
  | _=>none
 | _=>none
def IY {x:C} {b:Bool} (h:GS x=some b):∀ E u,L E x u->(b=true∧u=.nilFunc)∨(b=false∧∃ f ys zs,u=.func f ys zs):=by
 intro E u hl;unfold GS at h;split at h
 ·cases h;cases hl;exact .inr ⟨rfl,_,_,_,rfl⟩
 ·split at h
  ·cases h;cases hl;exact .inl ⟨rfl,rfl⟩
  ·cases h
 ·cases h
def Ax (P:Program) (t:TypeId):Bool:=
 match P.underlying t with
 | some (.func ..)=>true
 | _=>false
def EF (P:Program) (H:zl) (op:BinOp) (t:TypeId) (x:C) (K:C->zl->Prop):Prop:=
 match GS x with
 | some b=>match op with
  | .eql=>bK (Ax P t) <| K (.v (.bool b)) H
  | .neq=>bK (Ax P t) <| K (.v (.bool (!b))) H
  | _=>False
 | none=>False
def N3 {P:Program} (w:World) (d:Nat) (t:TypeId) (ht:Ax P t=true) (y:Value) (n:Bool) (hy:(n=true∧y=.nilFunc)∨(n=false∧∃ f xs ys,y=.func f xs ys)):(Op.equalIn (d+1) t y .nilFunc).run P w=.ok n w:=by
 unfold Ax at ht;split at ht
 rotate_left
 ·cases ht
 rename_i a b c hu;rcases hy with ⟨rfl,rfl⟩ | ⟨rfl,f,xs,ys,rfl⟩ <;> simp [Op.equalIn,run_underlying hu]
def Qz {P:Program} (w:World) (t:TypeId) (ht:Ax P t=true) (y:Value) (n:Bool) (hy:(n=true∧y=.nilFunc)∨(n=false∧∃ f xs ys,y=.func f xs ys)):(Op.equal t y .nilFunc).run P w=.ok n w:=N3 w 9999 t ht y n hy
def lF.Mh {P:Program} {o:Oper} {ρ:Operand->C} {H:zl} (op:BinOp) (t t':TypeId) (x:Operand) (ho:o.op=.binOp op t x (.const .nilFunc) t') (hop:op=.eql∨op=.neq) (ht:Ax P t=true) (b:Bool)
  (hx:∀ E u,L E (ρ x) u->(b=true∧u=.nilFunc)∨(b=false∧∃ f ys zs,u=.func f ys zs)):lF P o ρ H (.v (.bool (if op=.eql then b else !b))) H:=fun w E σ hh hl hc K hk=>by
 have hv:=hx E _ (hl x uX);have he:=Qz w t ht _ _ hv
 have hr:(execOp σ o).run P w=.ok (.value (.bool (if op=.eql then b else !b))) w:=by
  unfold execOp;rcases hv with ⟨rfl,hv⟩ | ⟨rfl,f,ys,zs,hv⟩ <;> rw [hv] at he <;> rcases hop with rfl | rfl <;> simp [ho,hv,hc,eqGuard,binOp,he]
 rw [hr];exact hk _ w E hh (.v _ rfl) (Grow.refl w E H)
def Tw {P:Program} {o:Oper} {ρ:Operand->C} {H:zl} {K:C->zl->Prop} {op:BinOp} {t:TypeId} {x:Operand} (ho:Hk o=some (op,t,x)) (h:EF P H op t (ρ x) K):∃ c,lF P o ρ H c H∧K c H:=by
 obtain ⟨t',ho⟩:∃ t',o.op=.binOp op t x (.const .nilFunc) t':=by
  unfold Hk at ho;split at ho
  ·rename_i h1;split at ho
   ·split at ho
    ·cases ho;exact ⟨_,h1⟩
    ·cases ho
   ·cases ho
  ·cases ho
 unfold EF at h;split at h
 ·rename_i b hb;split at h
  ·exact ⟨_,.Mh .eql t t' x ho (.inl rfl) (zW h).1 b (IY hb),(zW h).2⟩
  ·exact ⟨_,.Mh .neq t t' x ho (.inr rfl) (zW h).1 b (IY hb),(zW h).2⟩
  ·exact cM
 ·exact cM
def CZ (P:Program) (H:zl) (ρ:Operand->C) (o:Oper) (K:C->zl->Prop):Prop:=
 match Ha o with
 | some (op,ty,x)=>Hq P H op ty (ρ x) K
 | none=>match G5 o with
  | some (op,ty,x)=>Hg P H op ty (ρ x) K
  | none=>match Hk o with
  | some (op,ty,x)=>EF P H op ty (ρ x) K
  | none=>match G6 P ρ o with
  | some (f,args)=>∃ R,qC P f H args R∧∀ r H',R r H'->K r H'
  | none=>match mapRel H ρ o with
   | true=>jE P o ρ H K
   | false=>match K6 o with
    | some t=>match U4 P t with
     | true=>∀ b:Nat,xj (H++[AA b [] 0 []]) fun H'=>K (.v (.map (some b))) H'
     | false=>∀ b:Nat,xj (H++[fg b #[] 0]) fun H'=>K (.v (.map (some b))) H'
    | none=>mB P H ρ o K
def FU {P:Program} {H:zl} {ρ:Operand->C} {o:Oper} {K:C->zl->Prop} (h:CZ P H ρ o K):jE P o ρ H K:=by
 unfold CZ at h;split at h
 ·rename_i op ty x hn;exact RS hn h
 ·split at h
  ·rename_i op ty x hn;obtain ⟨c,h1,h2⟩:=RA hn h;exact h1.iS h2
  split at h
  ·rename_i op ty x hn;obtain ⟨c,h1,h2⟩:=Tw hn h;exact h1.iS h2
  ·split at h
   ·rename_i f args hn;obtain ⟨R,h1,h2⟩:=h;exact jE.call hn (fun w E vs hh hl=>(h1 w E vs hh hl).mono fun e w' ⟨r,H',v,E',hR,h3⟩=>⟨r,H',v,E',h2 r H' hR,h3⟩)
   split at h
   ·exact h
   split at h
   ·rename_i t hm
    have ho:o.op=.makeMap t none:=by
     unfold K6 at hm;split at hm
     ·rename_i ho;split at hm
      ·cases hm;exact ho
      ·cases hm
     ·cases hm
    split at h
    ·exact .Td t ho fun b=>q8 (h b)
    ·exact .makeMap t ho fun b=>q8 (h b)
   ·obtain ⟨c,H',h1,h2⟩:=Fc h;exact h1.iS h2
def CY (P:Program) (ops:Array Oper) (o:Oper) (next:List C->zl->(List C->zl->Prop)->Prop) (t:List C) (H:zl) (K:List C->zl->Prop):Prop:=
 match jF ops t o with
 | some true=>CZ P H (ev t) o fun c H'=>lD t o.dst c fun t=>next t H' K
 | some false=>lD t o.dst .un fun t=>next t H K
 | none=>False
def l8 (P:Program) (ops:Array Oper) (l:List Oper):List C->zl->(List C->zl->Prop)->Prop:=
 List.rec (motive:=fun _=>List C->zl->(List C->zl->Prop)->Prop) (fun t H K=>K t H) (fun o _ next=>CY P ops o next) l
theorem JT (P:Program) (ops:Array Oper) (o:Oper) (l:List Oper) (t:List C) (H:zl) (K:List C->zl->Prop):l8 P ops (o::l) t H K=CY P ops o (l8 P ops l) t H K:=rfl
section
variable {P:Program} {B:Nat} {ops:Array Oper}
def Fl:∀ {l:List Oper} {t:List C} {H:zl} {K:List C->zl->Prop},l8 P ops l t H K->kY P B ops l ⟨t,H⟩ fun s'=>K s'.tmps s'.H
 | [],t,H,K,h=>.nil h
 | o::l,t,H,K,h=>by
  rw [JT] at h;unfold CY at h;split at h
  ·rename_i hw;refine .run (s:=⟨t,H⟩) hw (.DE (s:=⟨t,H⟩) (FU h)) ?_;rintro s1 ⟨c,H',h1,rfl⟩;exact Fl (jJ (k:=fun t=>l8 P ops l t H' K) h1)
  ·rename_i hw;exact .pass (s:=⟨t,H⟩) hw (Fl (jJ (k:=fun t=>l8 P ops l t H K) h))
  ·exact cM
abbrev WK:=List C->zl->(Exit->List C->zl->Prop)->Prop
def WY (x y:WK):WK:=fun t H K=>x t H fun ex t H=>match ex with
 | .normal=>y t H K
 | ex=>K ex t H
def VX (id:Nat) (c:WK):WK:=fun t H K=>c t H fun ex t H=>match ex with
 | .exit id'=>if id'=id then K .normal t H else K (.exit id') t H
 | ex=>K ex t H
def GV (c:Operand) (x y:WK):WK:=fun t H K=>match ev t c with
 | .v (.bool b)=>match b with
  | true=>x t H K
  | false=>y t H K
 | _=>False
noncomputable def readyB (all:List Bool) (ops:List Oper):List Bool->Nat->List Nat:=
 List.rec (motive:=fun _=>List Bool->Nat->List Nat) (fun _ _=>[]) (fun o _ ih bs k=>match bs with
  | []=>[]
  | b::bs=>match b with
   | true=>ih bs (k+1)
   | false=>match o.after.toList.all (fun e=>!Region.binds .any e || all.getD e.on false) with
    | true=>k::ih bs (k+1)
    | false=>ih bs (k+1)) ops
noncomputable def bothK (f:Nat->Prop) (l:List Nat):Prop:=List.rec (motive:=fun _=>Prop) True (fun i _ ih=>f i∧ih) l
structure iD where
 bl:List Nat:=[]
 keep:List Nat:=[]
 flat:Bool:=false
def XC (T:iD) (H0 H:zl):Prop:=kn T.keep H0 H∧(T.flat=true->qP H=true)
noncomputable def pickE (bl:List Nat) (ops:Array Oper) (t:List C) (l:List Nat):Option Nat:=
 List.rec (motive:=fun _=>Option Nat) none (fun i _ ih=>match ops[i]? with
  | some o=>match xD o || mM bl i with
   | true=>some i
   | false=>match jF ops t o with
    | some b=>match b with
     | true=>ih
     | false=>some i
    | none=>ih
  | none=>ih) l
def GD (P:Program) (T:iD) (H:zl) (ρ:Operand->C) (o:Oper) (K:C->zl->Prop):Prop:=
 match o.op with
 | .call cl=>match cl.callee with
  | .value x=>match ρ x with
   | .fn f first caps=>bK (qp P f) <| ∃ r,(∀ H2,XC T H H2->zb P f H2 (first++(cl.args.toList.map fun x=>eV (ρ x))++caps) r H2)∧okB r fun r=>K r H
   | _=>False
  | _=>False
 | _=>DY P T.keep H ρ o K
def EI (P:Program) (T:iD) (ops:Array Oper) (o:Oper) (k:Nat) (next:List C->zl->(List C->zl->Prop)->Prop) (t:List C) (H:zl) (K:List C->zl->Prop):Prop:=
 match jF ops t o with
 | some true=>match mM T.bl k with
  | true=>GD P T H (ev t) o fun c H'=>lD t o.dst c fun t=>next t H' K
  | false=>match xD o with
   | true=>mB P H (ev t) o fun c H'=>lD t o.dst c fun t=>next t H' K
   | false=>False
 | some false=>lD t o.dst .un fun t=>next t H K
 | none=>False
def Hc (T:iD) (H H':zl) (k:Prop):Prop:=match T.flat with
 | true=>qP H'=true∧CF H H' k T.keep
 | false=>CF H H' k T.keep
def o8 (P:Program) (T:iD) (ops:Array Oper) (o:Oper) (next:List C->zl->(List C->zl->Prop)->Prop) (t:List C) (H:zl) (K:List C->zl->Prop):Prop:=
 match jF ops t o with
 | some true=>match Cx o with
  | true=>mB P H (ev t) o fun c H'=>lD t o.dst c fun t=>next t H' K
  | false=>CZ P H (ev t) o fun c H'=>Hc T H H' (lD t o.dst c fun t=>next t H' K)
 | some false=>lD t o.dst .un fun t=>next t H K
 | none=>False
noncomputable def bruteK (P:Program) (T:iD) (ops:Array Oper) (n:Nat):List Bool->List C->zl->(List C->zl->Prop)->Prop:=
 Nat.rec (motive:=fun _=>List Bool->List C->zl->(List C->zl->Prop)->Prop)
  (fun listed t H K=>match readyB listed ops.toList listed 0 with
   | []=>K t H
   | _::_=>False)
  (fun _ ih listed t H K=>match readyB listed ops.toList listed 0 with
   | []=>K t H
   | i::is=>match pickE T.bl ops t (i::is) with
    | some i=>match ops[i]? with
     | some o=>EI P T ops o i (fun t H K=>ih (listed.set i true) t H K) t H K
     | none=>False
    | none=>bothK (fun i=>match ops[i]? with
     | some o=>o8 P T ops o (fun t H K=>ih (listed.set i true) t H K) t H K
     | none=>False) (i::is)) n
def LK (md:Region.Mode) (ops:Array Oper) (ms:List Nat):Bool:=
 (List.range ops.size).all fun i=>(List.range ops.size).all fun j=>Nat.beq j i || mI md ops ms i j || match ops[i]?,ops[j]? with
  | some oi,some oj=>(oj.after.any fun e=>Region.binds md e && e.on == i) || oi.apart ops oj
  | _,_=>true
def AF (md:Region.Mode) (ops:Array Oper):Bool:=LK md ops (lY md ops)
noncomputable def regionK (P:Program) (B:Nat) (ops:Array Oper) (draw:Bool):WK:=fun t H K=>match draw with
 | false=>l8 P ops ops.toList t H fun t H=>K .normal t H
 | true=>(∃ T:ij,(P.follows .mixedOrders && Region.lexB .any ops && Bb .any T ops)=true∧ly P T ops ops.toList 0 t H fun t H=>K .normal t H)∨
  ∃ T:iD,(P.follows .mixedOrders && AF .any ops)=true∧(T.flat=true->qP H=true)∧∃ R:List C->zl->Prop,bruteK P T ops ops.size (ops.toList.map fun _=>false) t H (fun t1 H1=>∃ t2 H2,zo B ⟨t1,H1⟩ ⟨t2,H2⟩∧R t2 H2)∧∀ t2 H2,R t2 H2->K .normal t2 H2
def Jb {all:List Bool}:∀ {os:List Oper} {bs:List Bool} {k i:Nat},i ∈ readyB all os bs k↔∃ j o,i=k+j∧os[j]?= some o∧bs[j]?= some false∧o.after.toList.all (fun e=>!Region.binds .any e || all.getD e.on false)=true
 | [],bs,k,i=>by simp [readyB]
 | o::os,[],k,i=>by
  have e:readyB all (o::os) [] k=[]:=rfl;rw [e];simp
 | o::os,b::bs,k,i=>by
  have e:readyB all (o::os) (b::bs) k=match b with
   | true=>readyB all os bs (k+1)
   | false=>match o.after.toList.all (fun e=>!Region.binds .any e || all.getD e.on false) with
    | true=>k::readyB all os bs (k+1)
    | false=>readyB all os bs (k+1):=rfl
  have ih:=Jb (all:=all) (os:=os) (bs:=bs) (k:=k+1) (i:=i)
  have split:(∃ j o',i=k+j∧(o::os)[j]?= some o'∧(b::bs)[j]?= some false∧o'.after.toList.all (fun e=>!Region.binds .any e || all.getD e.on false)=true)↔
    (i=k∧b=false∧o.after.toList.all (fun e=>!Region.binds .any e || all.getD e.on false)=true)∨i ∈ readyB all os bs (k+1):=by
   rw [ih];constructor
   ·rintro ⟨j,o',h1,h2,h3,h4⟩;cases j with
    | zero=>simp at h2 h3;subst h2;exact .inl ⟨aw,h3,h4⟩
    | succ j=>exact .inr ⟨j,o',aw,aq h2,aq h3,h4⟩
   ·rintro (⟨h1,h2,h3⟩ | ⟨j,o',h1,h2,h3,h4⟩)
    ·exact ⟨0,o,aw,rfl,bF,h3⟩
    ·exact ⟨j+1,o',aw,aq h2,aq h3,h4⟩
  rw [split,e];cases b with
  | true=>simp
  | false=>
   dsimp only;split
   ·rename_i h;rw [h];simp only [rq,and_true]
   ·rename_i h;rw [h];simp only [rU,and_false,false_or]
def Cd {ops:Array Oper} {listed:Array Bool} (hl:listed.size=ops.size) (i:Nat):i ∈ Region.ready .any ops listed↔i ∈ readyB listed.toList ops.toList listed.toList 0:=by
 rw [Jb];unfold Region.ready;rw [List.mem_filter,pG]
 have z7:∀ o:Oper,o.after.toList.all (fun e=>!Region.binds .any e || listed.toList.getD e.on false)=o.after.all (fun e=>!Region.binds .any e || listed.getD e.on false):=fun o=>by
  rw [<- rQ]
  congr 1
  funext e
  rw [uc,gL,gV]
 constructor
 ·rintro ⟨h1,h2⟩;rw [dU] at h2;obtain ⟨h2,h3⟩:=h2;obtain ⟨o,ho⟩:∃ o,ops[i]?= some o:=⟨ops[i],aD⟩;rw [ho] at h3;simp only [dX,gY] at h3;refine ⟨i,o,aw,by rw [gL];exact ho,?_,by rw [z7];exact h3⟩;rw [gL];rw [gV,pZ aw] at h2;simp only [gY] at h2;rw [pZ aw];simpa using h2
 ·rintro ⟨j,o,h1,h2,h3,h4⟩;obtain rfl:i=j:=by omega
  rw [gL] at h2 h3;have ux:=(gf.1 h2).1;refine ⟨ux,?_⟩;rw [dU];rw [z7] at h4;refine ⟨?_,by rw [h2];simpa using h4⟩;rw [gV,h3]
  rfl
def Kc {f:Nat->Prop}:∀ {l:List Nat},bothK f l->∀ i ∈ l,f i
 | [],_,i,hi=>by cases hi
 | j::l,h,i,hi=>by
  have h:f j∧bothK f l:=h;rcases rq.1 hi with rfl | hi
  ·exact h.1
  ·exact Kc h.2 i hi
def jE.WT {o:Oper} {tmps:List C} {H:zl} {R:C->zl->Prop} {x:C} {dst:Option Tmp} {ops:Array Oper} (h:∀ d,dst=some d->d ∉ o.looksAt ops) (h':jE P o (ev (put tmps dst x)) H R):jE P o (ev tmps) H R:=
 fun w E σ hh hl hc K hk=>h' w E σ hh (fun y hy=>by rw [Gw (FI h y hy)];exact hl y hy) hc K hk
def jE.G9 {o:Oper} {ρ:Operand->C} {H:zl} {R R':C->zl->Prop} (hR:∀ c H',R c H'->R' c H') (h:jE P o ρ H R):jE P o ρ H R':=
 fun w E σ hh hl hc K hk=>h w E σ hh hl hc K fun c H' v w' E' h1=>hk c H' v w' E' (hR c H' h1)
def na (P:Program) (ops:Array Oper) (X:zl->Prop) (i:Nat) (K:S->Prop) (s:S):Prop:=
 match ops[i]? with
 | none=>K s
 | some o=>(jF ops s.tmps o=some true∧jE P o (ev s.tmps) s.H fun c H'=>X H'∧K ⟨put s.tmps o.dst c,H'⟩)∨(jF ops s.tmps o=some false∧K ⟨put s.tmps o.dst .un,s.H⟩)
def Ri {ops:Array Oper} {X:zl->Prop} {i:Nat} {s:S} {K K':S->Prop} (hX:X s.H) (h:∀ s,X s.H->K s->K' s) (hh:na P ops X i K s):na P ops X i K' s:=by
 unfold na at *;split
 ·exact h _ hX (by simpa [*] using hh)
 ·rename_i o ho;simp only [ho] at hh;rcases hh with ⟨h1,h2⟩ | ⟨h1,h2⟩
  ·exact .inl ⟨h1,h2.G9 fun c H' ⟨h3,h4⟩=>⟨h3,h _ h3 h4⟩⟩
  ·exact .inr ⟨h1,h _ hX h2⟩
def As (P:Program) (md:Region.Mode) (ops:Array Oper) (X:zl->Prop) (Q:S->Prop):Nat->Array Bool->S->Prop
 | 0,listed,s=>Region.ready md ops listed=[]∧Q s
 | fuel+1,listed,s=>(Region.ready md ops listed=[]->Q s)∧∀ i ∈ Region.ready md ops listed,na P ops X i (As P md ops X Q fuel (listed.setIfInBounds i true)) s
def vP {P:Program} {B:Nat} {ops:Array Oper} {md:Region.Mode} {X:zl->Prop} {q:Option Nat} {m:Nat} {H0:zl} {Q:S->Prop} {w0:World} {E0:Env} {Q':Exit->Act->World->Prop} (hQ:∀ s w E a,Q s->xN B m w E s a->jA B w0 E0 H0 w E s.H->Q' .normal a w):
  ∀ (fuel:Nat) (listed:Array Bool) (s:S) (w:World) (E:Env) (a:Act),xN B m w E s a->jA B w0 E0 H0 w E s.H->As P md ops X Q fuel listed s->wpAnyIn (fw q) 0 P md ops Q' fuel listed a w
 | 0,_,s,w,E,a,hs,hg,h=>⟨h.1,hQ s w E a h.2 hs hg⟩
 | fuel+1,listed,s,w,E,a,hs,hg,h=>⟨fun h0=>hQ s w E a (h.1 h0) hs hg,fun i hi=>by
   have h1:=h.2 i hi;unfold na at h1;unfold wpOpIn;split
   ·rename_i ho;simp only [ho] at h1;exact vP hQ fuel _ s w E a hs hg h1
   ·rename_i o ho;simp only [ho] at h1;rcases h1 with ⟨hw,hv⟩ | ⟨hw,hK⟩
    ·rw [dQ (jQ hs.tmps hw)];refine nD.DE (s:=s) hv q m w E a _ Q' hs fun s' w' E' a' hR h2 g2=>?_
     obtain ⟨c,H',⟨_,h3⟩,rfl⟩:=hR;exact vP hQ fuel _ _ w' E' a' h2 (hg.trans g2) h3
    ·rw [dN bt];exact ⟨fun _ _=>trivial,vP hQ fuel _ ⟨put s.tmps o.dst .un,s.H⟩ w E _ (hs.put .un o.dst) hg hK⟩⟩
def Rj {ops:Array Oper} {X:zl->Prop} {j:Nat} {oi oj:Oper} {c:C} (hj:ops[j]?= some oj) (hap:oi.apart ops oj=true) {K:S->Prop} {s:S} (hy:YA P ops X oi c s.tmps)
  (h:na P ops X j K ⟨put s.tmps oi.dst c,s.H⟩):na P ops X j (fun s'=>YA P ops X oi c s'.tmps∧K ⟨put s'.tmps oi.dst c,s'.H⟩) s:=by
 obtain ⟨h1,h2,h3⟩:=Oper.apart_spec hap;unfold na at *;simp only [hj] at *;rcases h with ⟨hw,hv⟩ | ⟨hw,hK⟩
 ·refine .inl ⟨(yU h1) ▸ hw,(hv.G9 fun c' H' ⟨h4,h5⟩=>⟨h4,(YA.put h3).2 hy,?_⟩).WT h1⟩;rw [put_comm _ _ h2] at h5;exact h5
 ·refine .inr ⟨(yU h1) ▸ hw,(YA.put h3).2 hy,?_⟩;rw [put_comm _ _ h2] at hK;exact hK
def PY {ops:Array Oper} {md:Region.Mode} {X:zl->Prop} {Q:S->Prop} {i:Nat} {oi:Oper} {c:C} (hi:ops[i]?= some oi):
  ∀ (fuel:Nat) (listed:Array Bool) (s:S),X s.H->
   (∀ j oj,ops[j]?= some oj->j≠i->listed.getD j true=false->(∀ e ∈ oj.after,Region.binds md e=true->e.on≠i)->oi.apart ops oj=true)->
   i ∈ Region.ready md ops listed->YA P ops X oi c s.tmps->
   As P md ops X Q fuel (listed.setIfInBounds i true) ⟨put s.tmps oi.dst c,s.H⟩->As P md ops X Q (fuel+1) listed s:=by
 have here:∀ (s:S) (K:S->Prop),X s.H->YA P ops X oi c s.tmps->K ⟨put s.tmps oi.dst c,s.H⟩->na P ops X i K s:=fun s K hX hy hK=>by
  unfold na;simp only [hi];rcases hy with ⟨h1,h2⟩ | ⟨h1,rfl⟩
  ·exact .inl ⟨h1,(h2 s.H hX).iS ⟨hX,hK⟩⟩
  ·exact .inr ⟨h1,hK⟩
 intro fuel
 induction fuel with
 | zero=>
  intro listed s hX _ hr hy H;refine ⟨fun h=>bu,fun j hj=>?_⟩;by_cases hji:j=i
  ·subst hji;exact here s _ hX hy H
  ·have:=ready_mono hj hji;rw [H.1] at this;cases this
 | succ fuel ih=>
  intro listed s hX hfree hr hy H;refine ⟨fun h=>bu,fun j hj=>?_⟩;by_cases hji:j=i
  ·subst hji;exact here s _ hX hy H
  ·have h1:=H.2 j (ready_mono hj hji);obtain ⟨hjun,oj,hoj,z7⟩:=mem_ready.1 hj
   have hnot:∀ e ∈ oj.after,Region.binds md e=true->e.on≠i:=fun e he hb heq=>by
    have h1:=z7 e he hb;have h0:=(mem_ready.1 hr).1;rw [heq] at h1;rcases rm i listed.size with h' | h'
    ·simp [h'] at h0 h1;rw [h0] at h1;cases h1
    ·simp [rF h'] at h1
   have hap:=hfree j oj hoj hji hjun hnot;have h2:=Rj hoj hap hy h1
   have hfree':∀ k ok,ops[k]?= some ok->k≠i->(listed.setIfInBounds j true).getD k true=false->
     (∀ e ∈ ok.after,Region.binds md e=true->e.on≠i)->oi.apart ops ok=true:=fun k ok hk hki hun hno=>by
    refine hfree k ok hk hki ?_ hno;by_cases hjk:j=k
    ·subst hjk;exact hjun
    ·rw [getD_set_ne true hjk] at hun;exact hun
   refine Ri hX (fun s' hX' ⟨h3,h4⟩=>ih (listed.setIfInBounds j true) s' hX' hfree' (ready_mono hr (Ne.symm hji)) h3 ?_) h2;rw [sK _ _ hji];exact h4
def NK {md:Region.Mode} {ops:Array Oper} (h:AF md ops=true) {i j:Nat} {oi oj:Oper} (hi:ops[i]?= some oi) (hj:ops[j]?= some oj) (hne:j≠i) (hd:mI md ops (lY md ops) i j=false)
  (hno:∀ e ∈ oj.after,Region.binds md e=true->e.on≠i):oi.apart ops oj=true:=by
 simp only [AF,LK,dV,pG] at h;have h1:=h i (gf.1 hi).1 j (gf.1 hj).1
 have hb:Nat.beq j i=false:=by
  cases hb:Nat.beq j i with
  | false=>rfl
  | true=>exact absurd (Nat.eq_of_beq_eq_true hb) hne
 simp only [hb,hd,rh,hi,hj,pE] at h1;rcases h1 with h1 | h1
 ·obtain ⟨e,hem,hb⟩:=Array.any_eq_true'.1 h1;simp only [dU,gT] at hb;exact absurd hb.2 (hno e hem hb.1)
 ·exact h1
def XC.trans {T:iD} {H H' H'':zl} (h:XC T H H') (h':XC T H' H''):XC T H H'':=⟨h.1.trans h'.1,h'.2⟩
def XC.back {T:iD} {H H' H'':zl} (h:XC T H H') (h':XC T H H''):XC T H' H'':=⟨fun id hi=>(h'.1 id hi).trans (h.1 id hi).symm,h'.2⟩
def OQ {T:iD} {o:Oper} {ρ:Operand->C} {H:zl} {K:C->zl->Prop} (h:GD P T H ρ o K):∃ c,(∀ H2,XC T H H2->u6 P o ρ H2 c H2)∧K c H:=by
 unfold GD at h;split at h
 ·rename_i cl ho;split at h
  ·rename_i x hcl;split at h
   ·rename_i f first caps hf;obtain ⟨h1,r,h2,h3⟩:=zW h;exact ⟨r,fun H2 hx=>.GZ cl ho x hcl hf h1 (h2 H2 hx),jd (k:=fun c=>K c H) h3⟩
   ·exact cM
  ·exact cM
 ·obtain ⟨c,h1,h2⟩:=Iu h;exact ⟨c,fun H2 hx=>h1 H2 hx.1,h2⟩
def QH {T:iD} {H0 H H':zl} {k:Prop} (hX:XC T H0 H) (h:Hc T H H' k):XC T H0 H'∧k:=by
 unfold Hc at h;split at h
 ·obtain ⟨h1,h2⟩:=C3 h.2;exact ⟨⟨hX.1.trans h1,fun _=>h.1⟩,h2⟩
 ·rename_i hf;obtain ⟨h1,h2⟩:=C3 h;exact ⟨⟨hX.1.trans h1,fun h=>by rw [hf] at h;cases h⟩,h2⟩
def Df {bl:List Nat} {ops:Array Oper} {t:List C}:∀ {l:List Nat} {i:Nat},pickE bl ops t l=some i->i ∈ l
 | [],i,h=>by cases h
 | j::l,i,h=>by
  have h:(match ops[j]? with
   | some o=>match xD o || mM bl j with
    | true=>some j
    | false=>match jF ops t o with
     | some b=>match b with
      | true=>pickE bl ops t l
      | false=>some j
     | none=>pickE bl ops t l
   | none=>pickE bl ops t l)=some i:=h
  split at h
  ·split at h
   ·cases h;exact pz ..
   ·split at h
    ·split at h
     ·exact pj _ (Df h)
     ·cases h;exact pz ..
    ·exact pj _ (Df h)
  ·exact pj _ (Df h)
def E5 {T:iD} {ops:Array Oper} {H0:zl} {K:List C->zl->Prop} (hap:AF .any ops=true):
  ∀ (fuel:Nat) (listed:Array Bool) (t:List C) (H:zl),Down .any ops listed->listed.size=ops.size->XC T H0 H->bruteK P T ops fuel listed.toList t H K->
   As P .any ops (XC T H0) (fun s=>K s.tmps s.H) fuel listed ⟨t,H⟩
 | 0,listed,t,H,hd,hl,hX,h=>by
  have h:match readyB listed.toList ops.toList listed.toList 0 with
   | []=>K t H
   | _::_=>False:=h
  split at h
  ·rename_i hr;refine ⟨?_,h⟩;rw [rY];intro i hi;have:=(Cd hl i).1 hi;rw [hr] at this;cases this
  ·exact cM
 | fuel+1,listed,t,H,hd,hl,hX,h=>by
  have h:match readyB listed.toList ops.toList listed.toList 0 with
   | []=>K t H
   | i::is=>match pickE T.bl ops t (i::is) with
    | some i=>match ops[i]? with
     | some o=>EI P T ops o i (fun t H K=>bruteK P T ops fuel (listed.toList.set i true) t H K) t H K
     | none=>False
    | none=>bothK (fun i=>match ops[i]? with
     | some o=>o8 P T ops o (fun t H K=>bruteK P T ops fuel (listed.toList.set i true) t H K) t H K
     | none=>False) (i::is):=h
  split at h
  ·rename_i hr
   have h0:Region.ready .any ops listed=[]:=by
    rw [rY];intro i hi;have:=(Cd hl i).1 hi;rw [hr] at this;cases this
   exact ⟨fun _=>h,fun i hi=>by rw [h0] at hi;cases hi⟩
  ·rename_i j js hr;have hset:∀ i,(listed.setIfInBounds i true).toList=listed.toList.set i true:=fun i=>by simp
   have hsz:∀ i,(listed.setIfInBounds i true).size=ops.size:=fun i=>by simpa using hl
   split at h
   ·rename_i i hp;have hi:i ∈ Region.ready .any ops listed:=(Cd hl i).2 (by rw [hr];exact Df hp);split at h
    rotate_left
    ·exact cM
    rename_i o ho
    have go:∀ c,YA P ops (XC T H0) o c t->bruteK P T ops fuel (listed.toList.set i true) (put t o.dst c) H K->As P .any ops (XC T H0) (fun s=>K s.tmps s.H) (fuel+1) listed ⟨t,H⟩:=fun c hy hb=>
     PY ho fuel listed ⟨t,H⟩ hX (fun j oj hj hne hun hno=>NK hap ho hj hne (by
       cases hdp:mI .any ops (lY .any ops) i j with
       | false=>rfl
       | true=>
        have h1:=hd.ready hi hdp;rcases rm j listed.size with h' | h'
        ·simp [h'] at h1 hun;rw [h1] at hun;cases hun
        ·simp [rF h'] at h1) hno) hi hy
      (E5 hap fuel _ _ _ (hd.step hi) (hsz i) hX (by rw [hset];exact hb))
    unfold EI at h;split at h
    ·rename_i hw;split at h
     ·obtain ⟨c,h1,h2⟩:=OQ h;exact go c (.inl ⟨hw,fun H2 h3=>h1 H2 (hX.back h3)⟩) (jJ (k:=fun t=>bruteK P T ops fuel (listed.toList.set i true) t H K) h2)
     ·split at h
      ·rename_i hb;obtain ⟨c,h1,h2⟩:=IH hb h;exact go c (.inl ⟨hw,fun H2 _=>h1 H2⟩) (jJ (k:=fun t=>bruteK P T ops fuel (listed.toList.set i true) t H K) h2)
      ·exact cM
    ·rename_i hw;exact go .un (.inr ⟨hw,rfl⟩) (jJ (k:=fun t=>bruteK P T ops fuel (listed.toList.set i true) t H K) h)
    ·exact cM
   ·have hne:Region.ready .any ops listed≠[]:=fun h0=>by
     have:j ∈ readyB listed.toList ops.toList listed.toList 0:=by rw [hr];exact pz ..
     have:=(Cd hl j).2 this;rw [h0] at this;cases this
    refine ⟨fun h0=>absurd h0 hne,fun i hi=>?_⟩;have hi2:=(Cd hl i).1 hi;rw [hr] at hi2;have h1:=Kc h i hi2;split at h1
    rotate_left
    ·exact h1.elim
    rename_i o ho;unfold na;rw [ho];dsimp only
    have next:∀ t' H',XC T H0 H'->bruteK P T ops fuel (listed.toList.set i true) t' H' K->As P .any ops (XC T H0) (fun s=>K s.tmps s.H) fuel (listed.setIfInBounds i true) ⟨t',H'⟩:=fun t' H' hX' hb=>
     E5 hap fuel _ _ _ (hd.step hi) (hsz i) hX' (by rw [hset];exact hb)
    unfold o8 at h1;split at h1
    ·rename_i hw;refine .inl ⟨hw,?_⟩;split at h1
     ·rename_i hlo;obtain ⟨c,h2,h3⟩:=JG hlo h1;exact h2.iS ⟨hX,next _ _ hX (jJ (k:=fun t=>bruteK P T ops fuel (listed.toList.set i true) t H K) h3)⟩
     ·refine (FU h1).G9 fun c H' h2=>?_
      obtain ⟨h3,h4⟩:=QH hX h2;exact ⟨h3,next _ _ h3 (jJ (k:=fun t=>bruteK P T ops fuel (listed.toList.set i true) t H' K) h4)⟩
    ·rename_i hw;exact .inr ⟨hw,next _ _ hX (jJ (k:=fun t=>bruteK P T ops fuel (listed.toList.set i true) t H K) h1)⟩
    ·exact h1.elim
def qW.WH {P:Program} {B:Nat} {ops:Array Oper} {id:Nat} {t:List C} {H:zl} {R:Exit->S->Prop} {R':List C->zl->Prop} {T:iD} (hm:P.follows .mixedOrders=true) (hap:AF .any ops=true) (hf:T.flat=true->qP H=true)
  (h:bruteK P T ops ops.size (ops.toList.map fun _=>false) t H (fun t1 H1=>∃ t2 H2,zo B ⟨t1,H1⟩ ⟨t2,H2⟩∧R' t2 H2)) (hR:∀ t2 H2,R' t2 H2->R .normal ⟨t2,H2⟩):qW P B (.region id ops true) ⟨t,H⟩ R:=fun q m w E a Q _ hs hq=>by
 refine wpIn_region_any hm (vP (X:=XC T H) (H0:=H) (Q:=fun s=>∃ t2 H2,zo B s ⟨t2,H2⟩∧R' t2 H2) (w0:=w) (E0:=E) (fun s1 w1 E1 a1 he h1 g1=>?_) _ _ ⟨t,H⟩ _ E a hs.drew ((Grow.drew w E H).fA tB) ?_)
 ·obtain ⟨t2,H2,hw,hR2⟩:=he;obtain ⟨E2,h2,g2⟩:=hw m w1 E1 a1 h1;exact hq _ _ w1 E2 a1 (hR t2 H2 hR2) h2 (g1.trans g2)
 ·have e:(Array.replicate ops.size false).toList=ops.toList.map fun _=>false:=by
   rw [Array.toList_replicate,List.map_const'];simp
  refine E5 (K:=fun t1 H1=>∃ t2 H2,zo B ⟨t1,H1⟩ ⟨t2,H2⟩∧R' t2 H2) hap _ _ _ _ Down.start aj ⟨.refl _ _,hf⟩ ?_;rw [e];exact h
structure od (P:Program) (B:Nat) (c:Code) (t:List C) (H:zl) (K:Exit->List C->zl->Prop):Prop where
 out:zZ P B c ⟨t,H⟩ fun ex s=>K ex s.tmps s.H
def Wb (P:Program) (B:Nat) (c:Code):WK:=fun t H K=>od P B c t H K
def GM (P:Program) (B:Nat) (g:Operand) (ps:Array Tmp) (assign body:Code):WK:=fun t H K=>match ev t g with
 | .fn f first caps=>bK (qp P f && first.isEmpty) <| ∃ H0,zo B ⟨t,H⟩ ⟨t,H0⟩∧∃ ex t' H',(∀ (l:Nat) (r:Loop),r.state=.ready->r.pending=none->r.params=ps->r.assign=assign->r.body=body->
   ∃ (rr:C) (Hf:zl) (rf:Loop),zb P f (H0++[fh l r t]) (.v (.func (.yield l) #[] #[])::caps) rr Hf∧Hf[H0.length]?= some (fh l rf t)∧rf.state≠.busy∧rf.tmps=r.tmps∧B<=Hf.length∧My rf.pending ex∧
    zo B ⟨t,Hf.set H0.length (fh l { rf with state:=.exhausted } t)⟩ ⟨t',H'⟩)∧K ex t' H'
 | _=>False
structure wG (P:Program) (B:Nat) (c:Code) (l:Nat) (t:List C) (H:zl) (K:Exit->List C->zl->Prop):Prop where
 out:Am P B c (fun ex s=>K ex s.tmps s.H) l ⟨t,H⟩
def Vx (P:Program) (B:Nat) (c:Code) (x:WK):WK:=fun t H K=>x t H fun ex t H=>match ex with
 | .goto l=>wG P B c l t H K
 | ex=>K ex t H
def MS:WK:=fun _ _ _=>False
noncomputable def wpA (P:Program) (B:Nat) (c:Code):WK:=
 Code.rec (motive:=fun _=>WK) (fun t H K=>K .normal t H) (fun _ ops draw=>regionK P B ops draw) (fun _ _ x y=>WY x y) (fun c _ _ x y=>GV c x y) (fun id _ x=>VX id x) (fun c _=>Wb P B c)
  (fun g ps assign body _ _=>GM P B g ps assign body) (fun id t H K=>K (.exit id) t H) (fun c x=>Vx P B c x) (fun _ t H K=>K .normal t H) (fun l t H K=>K (.goto l) t H) (fun t H K=>K .ret t H) (fun _=>MS) c
def jy:∀ {c:Code} {t:List C} {H:zl} {K:Exit->List C->zl->Prop},wpA P B c t H K->qW P B c ⟨t,H⟩ fun ex s=>K ex s.tmps s.H:=by
 intro c
 induction c with
 | skip=>intro t H K h;exact .skip h
 | exit id=>intro t H K h;exact .exit id h
 | ret=>intro t H K h;exact .ret h
 | label l=>intro t H K h;exact .label l h
 | seq x y ihx ihy=>
  intro t H K h;refine .seq ((ihx (t:=t) (H:=H) (K:=fun ex t H=>match ex with | .normal=>wpA P B y t H K | ex=>K ex t H) h).mono fun ex s1 h1=>?_);cases ex with
  | normal=>exact ihy h1
  | _=>exact h1
 | block id c ih=>
  intro t H K h;refine .block ((ih (t:=t) (H:=H) (K:=fun ex t H=>match ex with | .exit id'=>if id'=id then K .normal t H else K (.exit id') t H | ex=>K ex t H) h).mono fun ex s1 h1=>?_);cases ex with
  | exit id'=>exact h1
  | _=>exact h1
 | scope c ih=>
  intro t H K h;refine .Vw ((ih (t:=t) (H:=H) (K:=fun ex t H=>match ex with | .goto l=>wG P B c l t H K | ex=>K ex t H) h).mono fun ex s1 h1=>?_);cases ex with
  | goto l=>exact (show wG P B c l s1.tmps s1.H K from h1).out
  | _=>exact h1
 | goto l=>intro t H K h;exact .goto l h
 | cond c x y ihx ihy=>
  intro t H K h
  change GV c (wpA P B x) (wpA P B y) t H K at h
  unfold GV at h;split at h
  ·rename_i b hb;cases b with
   | true=>exact .cond (s:=⟨t,H⟩) hb (ihx h)
   | false=>exact .cond (s:=⟨t,H⟩) hb (ihy h)
  ·exact cM
 | region id ops draw=>
  intro t H K h;cases draw with
  | false=>exact .region (Fl (show l8 P ops ops.toList t H (fun t H=>K .normal t H) from h))
  | true=>
   rcases (show (∃ T:ij,(P.follows .mixedOrders && Region.lexB .any ops && Bb .any T ops)=true∧ly P T ops ops.toList 0 t H fun t H=>K .normal t H)∨
    ∃ T:iD,(P.follows .mixedOrders && AF .any ops)=true∧(T.flat=true->qP H=true)∧∃ R:List C->zl->Prop,bruteK P T ops ops.size (ops.toList.map fun _=>false) t H (fun t1 H1=>∃ t2 H2,zo B ⟨t1,H1⟩ ⟨t2,H2⟩∧R t2 H2)∧∀ t2 H2,R t2 H2->K .normal t2 H2 from h) with h | ⟨T,hm,hf,R,h1,h2⟩
   rotate_left
   ·rw [dU] at hm;exact qW.WH hm.1 hm.2 hf h1 h2
   obtain ⟨T,h1,h2⟩:=h;simp only [dU] at h1;obtain ⟨s',h3,h4⟩:=Run.V6 (B:=B) (id:=id) h1.1.1 h1.1.2 h1.2 h2;exact qW.mono h3 fun ex s1 ⟨e1,e2⟩=>by subst e1 e2;exact h4
 | loop c ih=>intro t H K h;exact .loop (show od P B c t H K from h).out
 | rangeFunc g ps assign body=>
  intro t H K h
  change GM P B g ps assign body t H K at h
  unfold GM at h;split at h
  ·rename_i f first caps hg;obtain ⟨h1,H0,h0,ex,t',H',h2,h3⟩:=zW h;simp only [dU,ui] at h1;obtain ⟨h1,rfl⟩:=h1;refine .pre h0 (.rangeFunc hg h1 fun l r a1 a2 a3 a4 a5=>?_);obtain ⟨rr,Hf,rf,b1,b2,b3,b4,b5,b6,b7⟩:=h2 l r a1 a2 a3 a4 a5;exact ⟨rr,Hf,rf,ex,⟨t',H'⟩,b1,b2,b3,b4,b5,b6,b7,h3⟩
  ·exact cM
 | _=>intro t H K h;exact (show False from h).elim
def wG.go {c rest:Code} {l:Nat} {t:List C} {H:zl} {K:Exit->List C->zl->Prop} (hf:findLabel c l=some rest)
  (h:wpA P B rest t H fun ex t H=>match ex with | .goto l=>wG P B c l t H K | ex=>K ex t H):wG P B c l t H K:=by
 refine ⟨.mk _ hf (jy h) (fun e s h1 he=>?_) fun l s h1=>(show wG P B c l s.tmps s.H K from h1).out⟩;cases e with
 | goto l=>exact absurd rfl (he l)
 | _=>exact h1
def ju.zU {H1 H':zl} {id l:Nat} {r:Loop} {t:List C} {args:List C} {rv:Bool} {ps:Array Tmp} {assign body:Code} (hob:H1[id]?= some (fh l r t)) (hst:r.state=.ready) (hpe:r.pending=none) (hps:r.params=ps) (ha:r.assign=assign) (hb:r.body=body)
  (hn:args.length=ps.size) (hna:xw assign=false) (hnb:xw body=false)
  (h:wpA P H1.length assign (Au t ps.toList args) H1 fun e t1 H1'=>e=.normal∧H1'[id]?= some (fh l r t)∧wpA P H1.length body t1 (H1'.set id (fh l (busy r) t)) fun e t2 H2=>
   ∃ t3 H3,zo H1.length ⟨t2,H2⟩ ⟨t3,H3⟩∧LR id l r t rv H' e H3):
  ju P l H1 args (.v (.bool rv)) H':=by
 subst hps ha hb;refine ju.wt hob hst hpe hn hna hnb ((jy h).mono fun e s1 ⟨h1,h2,h3⟩=>⟨h1,h2,(jy h3).mono fun e s2 ⟨t3,H3,h4,h5⟩=>⟨⟨t3,H3⟩,h4,h5⟩⟩)
def zZ.inv {c:Code} {t:List C} {H:zl} {K:Exit->List C->zl->Prop} (I:Nat->List C->zl->Prop) (n:Nat) (h0:∃ t0 H0,zo B ⟨t,H⟩ ⟨t0,H0⟩∧I n t0 H0)
  (step:∀ n t H,I n t H->wpA P B c t H fun e t1 H1=>(e=.normal∧∃ m t2 H2,m < n∧zo B ⟨t1,H1⟩ ⟨t2,H2⟩∧I m t2 H2)∨(e≠.normal∧K e t1 H1)):
  od P B c t H K:=by
 obtain ⟨t0,H0,hw,hI⟩:=h0;refine ⟨.pre hw ?_⟩
 suffices key:∀ n t H,I n t H->iz P B c (n+1) ⟨t,H⟩ fun ex s=>K ex s.tmps s.H from ⟨n+1,key n t0 H0 hI⟩
 intro n
 induction n using Nat.strongRecOn with
 | _ n ih=>
  intro t H hI;refine .step ((jy (step n t H hI)).post fun ex s1 h1=>?_);rcases h1 with ⟨rfl,m,t2,H2,hm,hw2,hI2⟩ | ⟨hne,hK⟩
  ·exact ⟨⟨t2,H2⟩,hw2,(iz.more aw (ih m hm t2 H2 hI2):iz P B c n ⟨t2,H2⟩ _)⟩
  ·refine ⟨s1,.refl s1,?_⟩;cases ex with
   | normal=>exact absurd rfl hne
   | _=>exact hK
def zb.zU {f:FuncId} {fn:Func} {c:Code} {H H':zl} {args:List C} {r:C} (hf:P.funcs[f]?= some fn) (hb:fn.body=some c)
  (h:wpA P H.length c (entry fn args) H fun ex t1 H1=>(ex=.ret∨ex=.normal)∧∃ s2,zo H.length ⟨t1,H1⟩ s2∧s2.H=H'∧kH P fn s2=some r):zb P f H args r H':=
 qC.at (qC.wt hf hb ((jy h).mono fun ex s1 ⟨hex,s2,hw,h2,h3⟩=>⟨hex,s2,r,hw,h3,rfl,h2⟩))
def qC.zU {f:FuncId} {fn:Func} {c:Code} {H:zl} {args:List C} {R:C->zl->Prop} (hf:P.funcs[f]?= some fn) (hb:fn.body=some c)
  (h:wpA P H.length c (entry fn args) H fun ex t1 H1=>(ex=.ret∨ex=.normal)∧∃ s2 r,zo H.length ⟨t1,H1⟩ s2∧kH P fn s2=some r∧R r s2.H):qC P f H args R:=
 qC.wt hf hb (jy h)
def zb.Gh {f:FuncId} {fn:Func} {c:Code} {args:List C} {r:C} (hf:P.funcs[f]?= some fn) (hb:fn.body=some c)
  (h:wpA P 0 c (entry fn args) [] fun ex t1 H1=>(ex=.ret∨ex=.normal)∧∃ s2,zo 0 ⟨t1,H1⟩ s2∧kH P fn s2=some r) (hr:qY 0 9 r=true):zb P f [] args r []:=
 qC.close (R:=fun c=>c=r) (qC.wt (H:=[]) (R:=fun c _=>c=r) hf hb ((jy h).mono fun ex s1 ⟨hex,s2,hw,h2⟩=>⟨hex,s2,r,hw,h2,rfl⟩)) fun c h=>⟨h,hr⟩
end
def q9 {n:Int} (h0: -9223372036854775808<=n) (h1:n<=9223372036854775807):IntKind.i64.wrap n=n:=IntWalk.i64_in n ⟨h0,h1⟩
def zu {n:Nat} (h:n < 9223372036854775807):IntKind.i64.wrap ((n:Int)+1)=((n+1:Nat):Int):=by rw [q9 aw aw];rfl
section
variable {P:Program} {f:FuncId} {H H':zl}
def zb.pre {args args':List C} {r:C} (h:zb P f H args' r H') (hw:fJ args args'):zb P f H args r H':=fun w E vs hh hl=>h w E vs hh (hw.LL hl)
def zb.post {args:List C} {r r':C} (h:zb P f H args r H') (hw:WC r r'):zb P f H args r' H':=fun w E vs hh hl=>(h w E vs hh hl).mono fun e w' ⟨v,E',h1,h2,h3,h4⟩=>⟨v,E',h1,h2,hw E' v h3,h4⟩
def toNat_cast (n:Nat):((n:Int)).toNat=n:=by simp
end
def Dt {P:Program} {f:FuncId} {vs:Array Value} {v:Value} {args:List C} {r:C} (H:zl) (hc:∀ w,Calls P f vs w fun e w'=>e=.returned v∧w'=w) (ha:∀ E (us:Array Value),LL E args us.toList->us=vs) (hr:∀ E,L E r v):zb P f H args r H:=fun w E us hh hl=>by
 obtain rfl:=ha E us hl;refine (hc w).mono ?_;rintro e w' ⟨rfl,rfl⟩;exact ⟨v,E,rfl,hh,hr E,Grow.refl _ _ _⟩
def WE {a:Value} (E:Env) (us:Array Value) (h:LL E [.v a] us.toList):us= #[a]:=by
 obtain ⟨l⟩:=us
 match l,h with
 | [],h=>have:=h.1;simp at this
 | [x],h=>
  obtain ⟨h1,_⟩:=h.cons_inv;cases h1;rfl
 | _::_::_,h=>have:=h.1;simp at this
def GY {a b:Value} (E:Env) (us:Array Value) (h:LL E [.v a,.v b] us.toList):us= #[a,b]:=by
 obtain ⟨l⟩:=us
 match l,h with
 | [],h=>have:=h.1;simp at this
 | [_],h=>have:=h.1;simp at this
 | [x,y],h=>
  obtain ⟨h1,h2⟩:=h.cons_inv;obtain ⟨h2,_⟩:=h2.cons_inv;cases h1;cases h2;rfl
 | _::_::_::_,h=>have:=h.1;simp at this
def yD {α:Type} {l:List α} {t:Nat} {y:α} (h:l[t]?= some y):l.set t y=l:=by
 apply g9
 intro i;rw [dY];split
 ·rename_i e;subst e;obtain ⟨h1,h2⟩:=dL.1 h;rw [dQ h1,h]
 ·rfl
section
variable {B:Nat} {s:S}
def qd.freeze {w:World} {E:Env} {H:zl} (h:qd w E H) {id:Nat} {ob:Ob} (hob:H[id]?= some ob) (hk:ob.kind=2) (hno:∀ i k c,cellAt ob.rows i k=some c->zy c=true):
  ∃ E',E.le E'∧qd w E' (H.modify id fun ob=>⟨ob.kind,ob.ty,ob.sz,ob.rows,ob.rows.length⟩)∧(∀ b o u,E'.St b o=some u->E.St b o=some u∨b=E.β id [])∧E'.β=E.β∧E'.G=E.G∧
   ∀ i k c,cellAt ob.rows i k=some c->∃ u,E'.St (E.β id []) (i * ob.sz+k)=some u∧L E'.shut c u:=by
 have hgb:z6 H id []=some (ob.sz,ob.rows):=by unfold z6;rw [hob];simp [hk,qQ]
 have hB:=h.u9 id ob [] _ _ hob hgb;obtain ⟨cur,e,hg,hcs,hcell⟩:=hB.u9
 have key:∀ o,o < ob.rows.length * ob.sz->∃ u,cur[o]?= some u∧u.oneCell'=true∧w.cell? ⟨E.β id [],o,none⟩=some u:=by
  intro o ho;obtain ⟨h1,h2,h3⟩:=EP ho;obtain ⟨c,hc⟩:=wI hB.row h1 h2;obtain ⟨u,hu,hok⟩:=hcell _ _ c hc;rw [qT.loose (hno _ _ c hc)] at hok;rw [h3] at hu;exact ⟨u,hu,hok.2,by unfold World.cell?;rw [hg];simpa using hu⟩
 obtain ⟨E',hE'⟩:∃ E':Env,E'={ E with St:=fun b o=>if b=E.β id []∧o < ob.rows.length * ob.sz then cur[o]? else E.St b o }:=⟨_,rfl⟩
 have hle:E.le E':=by
  subst hE';refine ⟨dW _,fun _ _ _=>rfl,fun _ _ _=>rfl,fun b o u hu=>?_,fun _ _ _ _ hu=>hu⟩;show (if b=E.β id []∧o < ob.rows.length * ob.sz then cur[o]? else E.St b o)=some u;split
  ·rename_i hc;obtain ⟨rfl,ho⟩:=hc;obtain ⟨u',h1,_,h2⟩:=key o ho;have:=(h.qs _ _ _ hu).1;rw [h2] at this;rw [h1,<- this]
  ·exact hu
 have hSt:∀ b o u,E'.St b o=some u->E.St b o=some u∨(b=E.β id []∧o < ob.rows.length * ob.sz∧cur[o]?= some u):=by
  subst hE';intro b o u hu
  change (if b=E.β id []∧o < ob.rows.length * ob.sz then cur[o]? else E.St b o)=some u at hu
  split at hu
  ·rename_i hc;exact .inr ⟨hc.1,hc.2,hu⟩
  ·exact .inl hu
 have hβ:E'.β=E.β:=by subst hE';rfl
 have hn:E'.n=E.n:=by subst hE';rfl
 have get:∀ id' hops x,z6 (H.modify id fun ob=>⟨ob.kind,ob.ty,ob.sz,ob.rows,ob.rows.length⟩) id' hops=some x->z6 H id' hops=some x:=by
  intro id' hops x hx;obtain ⟨ob',ho',hk',hg'⟩:=jc hx;rw [pq] at ho';cases hx':H[id']? with
  | none=>rw [hx'] at ho';cases ho'
  | some ob0=>
   rw [hx'] at ho';simp only [rj,dX,gu] at ho';unfold z6;rw [hx'];split at ho'
   ·subst ho';simp only [hk',if_true];exact hg'
   ·subst ho';simp only [hk',if_true];exact hg'
 have obs:∀ (id':Nat) (ob':Ob),(H.modify id fun ob=>⟨ob.kind,ob.ty,ob.sz,ob.rows,ob.rows.length⟩)[id']?= some ob'->∃ ob0,H[id']?= some ob0∧ob'.kind=ob0.kind∧ob'.ty=ob0.ty∧ob'.sz=ob0.sz∧ob'.rows=ob0.rows∧ob0.fz<=ob'.fz∧ob'.fz<=ob'.rows.length∧(id'=id->ob'.fz=ob0.rows.length):=by
  intro id' ob' ho';rw [pq] at ho';cases hx':H[id']? with
  | none=>rw [hx'] at ho';cases ho'
  | some ob0=>
   rw [hx'] at ho';simp only [rj,dX,gu] at ho';have:=h.fz id' ob0 hx';split at ho'
   ·subst ho';exact ⟨ob0,rfl,rfl,rfl,rfl,rfl,this,dW _,fun _=>rfl⟩
   ·rename_i hne;subst ho';exact ⟨ob0,rfl,rfl,rfl,rfl,rfl,dW _,this,fun e=>absurd e.symm hne⟩
 refine ⟨E',hle,⟨by rw [hn,h.n];simp,?_,?_,?_,?_,?_,?_⟩,fun b o u hu=>(hSt b o u hu).imp_right (·.1),hβ,by subst hE';rfl,?_⟩
 ·intro id' ob' hops sz rows hob' hx;obtain ⟨ob0,h1,h2,_⟩:=obs id' ob' hob';have hx':=get _ _ _ hx;rw [h2];exact (h.u9 id' ob0 hops sz rows h1 hx').step hle (by rw [h.n];exact Ad hx') rfl
 ·intro id1 p1 id2 p2 x y hx hy he;rw [hβ] at he;exact h.inj id1 p1 id2 p2 x y (get _ _ _ hx) (get _ _ _ hy) he
 ·intro b o u hu;rcases hSt b o u hu with h1 | ⟨rfl,h2,h3⟩
  ·exact h.qs b o u h1
  ·obtain ⟨u',h4,h5,h6⟩:=key o h2;rw [h3] at h4;cases h4
   exact ⟨h6,h5⟩
 ·intro id' hops x o u hx hu;have hx':=get _ _ _ hx;rw [hβ] at hu;obtain ⟨ob1,ho1,_,_⟩:=jc hx;obtain ⟨ob0,h1,h2,h3,h4,h5,h6,h7,h8⟩:=obs id' ob1 ho1;rcases hSt _ o u hu with h9 | ⟨h9,h10,_⟩
  ·obtain ⟨e1,ob2,e2,e3⟩:=h.sep id' hops x o u hx' h9;rw [h1] at e2;cases e2
   exact ⟨e1,ob1,ho1,by rw [h4];exact gU e3 (pt _ h6)⟩
  ·obtain ⟨rfl,rfl⟩:=h.inj id' hops id [] x _ hx' hgb h9;rw [hob] at h1;cases h1
   exact ⟨rfl,ob1,ho1,by rw [h8 rfl,h4];exact h10⟩
 ·intro id' ob' hob' hk';obtain ⟨ob0,h1,h2,h3,_⟩:=obs id' ob' hob';obtain ⟨cur',hc⟩:=h.ty id' ob0 h1 (by rw [<- h2];exact hk');exact ⟨cur',by rw [hβ,h3];exact hc⟩
 ·intro id' ob' hob';obtain ⟨ob0,h1,h2,h3,h4,h5,h6,h7,h8⟩:=obs id' ob' hob';exact h7
 ·intro i k c hc;obtain ⟨u,hu,hok⟩:=hcell i k c hc;rw [qT.loose (hno _ _ c hc)] at hok;obtain ⟨h1,h2⟩:=C9 hB.row hc
  have ux:i * ob.sz+k < ob.rows.length * ob.sz:=by
   have:(i+1) * ob.sz<=ob.rows.length * ob.sz:=pt _ h1;rw [pD] at this;omega
  refine ⟨u,?_,?_⟩
  ·subst hE';show (if E.β id []=E.β id []∧i * ob.sz+k < ob.rows.length * ob.sz then cur[i * ob.sz+k]? else _)=some u;rw [dQ ⟨rfl,ux⟩];exact hu
  ·have h3:=hok.1;simp only [Env.at,hk,if_true] at h3;exact h3.mono hle.shut
def zo.freeze (t:Nat) {id sz lo len:Nat} {full:Bool} {ob:Ob} (ht:s.tmps[t]?= some (.sl id [] sz lo len full)) (hob:s.H[id]?= some ob) (hk:ob.kind=2) (hsz:ob.sz=sz) (hlen:lo+len<=ob.rows.length)
  (hno:∀ r ∈ ob.rows,∀ c ∈ r,zy c=true):
  zo B s ⟨s.tmps.set t (.uv (if full then 1 else 0) sz ((ob.rows.drop lo).take len)),s.H.modify id fun ob=>⟨ob.kind,ob.ty,ob.sz,ob.rows,ob.rows.length⟩⟩:=fun m w E a hs=>by
 subst hsz
 have hno':∀ i k c,cellAt ob.rows i k=some c->zy c=true:=fun i k c hc=>by
  unfold cellAt at hc;cases hx:ob.rows[i]? with
  | none=>rw [hx] at hc;cases hc
  | some r=>rw [hx] at hc;exact hno r (dO hx) c (dO hc)
 obtain ⟨E',hle,hR,hnew,hβ,hKG0,hcells⟩:=hs.heap.base.freeze hob hk hno';have hgb:z6 s.H id []=some (ob.sz,ob.rows):=by unfold z6;rw [hob];simp [hk,qQ]
 have hrow:=(hs.heap.base.u9 id ob [] _ _ hob hgb).row;obtain ⟨y,hy,hl⟩:=hs.tmps.get ht
 have hnl:L E' (.uv (if full then 1 else 0) ob.sz ((ob.rows.drop lo).take len)) y:=by
  generalize hc:C.sl id [] ob.sz lo len full=c at hl;cases hl with
  | sl id' hops' sz' lo' len' full' cap hn hlen' hf hf'=>
   cases hc
   have hrl:((ob.rows.drop lo).take len).length=len:=aA
   have hsub:∀ i k,cellAt ((ob.rows.drop lo).take len) i k=if i < len then cellAt ob.rows (lo+i) k else none:=by
    intro i k;unfold cellAt;rw [gE];split
    ·rw [pA]
    ·rfl
   have ex:∀ i r k c,((ob.rows.drop lo).take len)[i]?= some r->r[k]?= some c->∃ u,E'.St (E.β id []) (lo * ob.sz+i * ob.sz+k)=some u∧L E'.shut c u:=by
    intro i r k c hr hc;have hcc:cellAt ((ob.rows.drop lo).take len) i k=some c:=by unfold cellAt;rw [hr];exact hc
    rw [hsub] at hcc;split at hcc
    ·obtain ⟨u,h1,h2⟩:=hcells _ _ c hcc;exact ⟨u,by rw [<- pD];exact h1,h2⟩
    ·cases hcc
   have:=L.uv (E:=E') (if full then 1 else 0) ob.sz ((ob.rows.drop lo).take len) (E.β id []) (lo * ob.sz) cap (fun i k=>(E'.St (E.β id []) (lo * ob.sz+i * ob.sz+k)).getD undef) ?_ ?_ ?_ ?_ ?_
   ·rw [hrl] at this;exact dy
   ·cases full with
    | false=>exact .inl rfl
    | true=>exact .inr ⟨rfl,by rw [hrl];exact hf rfl⟩
   ·rw [hrl];exact hlen'
   ·exact fun r hr=>hrow r (rP (pJ hr))
   ·intro i r k c hr hc;obtain ⟨u,h1,h2⟩:=ex i r k c hr hc;rw [h1];rfl
   ·intro i r k c hr hc;obtain ⟨u,h1,h2⟩:=ex i r k c hr hc;rw [h1];exact h2
  | _=>cases hc
 have hG:qB w E s.H w E' (s.H.modify id fun ob=>⟨ob.kind,ob.ty,ob.sz,ob.rows,ob.rows.length⟩):=by
  have hKG:∀ (id k:Nat),id < E.n->E'.G id k=E.G id k:=fun _ _ _=>by rw [hKG0]
  refine ⟨hle,hKG,rfl,rfl,rfl,dW _,fun _ _ _=>rfl,fun b o u hu=>?_,?_⟩
  ·rcases hnew b o u hu with h1 | h1
   ·exact .inl h1
   ·exact .inr (.inr ⟨id,[],_,hgb,h1.symm⟩)
  ·rintro b ⟨id',p,x,hx,rfl⟩
   right
   refine ⟨id',p,x,?_,by rw [hβ]⟩;obtain ⟨ob',ho',hk',hg'⟩:=jc hx;rw [pq] at ho';cases hx':s.H[id']? with
   | none=>rw [hx'] at ho';cases ho'
   | some ob0=>
    rw [hx'] at ho';simp only [rj,dX,gu] at ho';unfold z6;rw [hx'];split at ho'
    ·subst ho';simp only [hk',if_true];exact hg'
    ·subst ho';simp only [hk',if_true];exact hg'
 have hk4:jD s.H (s.H.modify id fun ob=>⟨ob.kind,ob.ty,ob.sz,ob.rows,ob.rows.length⟩):=jD.modify _ _ _ fun ob' h'=>by
  rw [hob] at h';cases h'
  exact ⟨by rw [hk];decide,by show ob.kind≠4;rw [hk];decide⟩
 refine ⟨E',⟨⟨hR,iZ.step hs.heap hG hk4⟩,?_,hs.defers,aq hs.base⟩,(hG.up hs.heap hk4).fA tB⟩;have:=(hs.tmps.mono hle).set hnl t;rw [yD hy] at this;exact dy
end
def posOf:List Nat->Nat->Nat->Option Nat
 | [],_,_=>none
 | x::xs,i,id=>if x == id then some i else posOf xs (i+1) id
def xZ:∀ {sel:List Nat} {k id i:Nat},posOf sel k id=some i->k<=i∧sel[i - k]?= some id
 | [],k,id,i,h=>by simp [posOf] at h
 | x::xs,k,id,i,h=>by
  unfold posOf at h;split at h
  ·rename_i e;cases h
   exact ⟨dW _,aq e⟩
  ·obtain ⟨h1,h2⟩:=xZ h;refine ⟨aw,?_⟩;rw [show i - k=(i - (k+1))+1 from aw];simpa using h2
def x9 (sel:List Nat):Nat->C->C
 | 0,_=>.za
 | k+1,c=>match c with
  | .ref id hops sz i j=>match posOf sel 0 id with
   | some id'=>.ref id' hops sz i j
   | none=>.za
  | .sl id hops sz lo len full=>match posOf sel 0 id with
   | some id'=>.sl id' hops sz lo len full
   | none=>.za
  | .mp id=>match posOf sel 0 id with
   | some id'=>.mp id'
   | none=>.za
  | .gl id sz rows=>match posOf sel 0 id with
   | some id'=>.gl id' sz rows
   | none=>.uv 0 sz rows
  | .eZ t c=>.eZ t (x9 sel k c)
  | .rc r=>.rc r
  | .agg cs=>.agg (cs.map (x9 sel k))
  | .u1 cs=>.u1 (cs.map (x9 sel k))
  | .fn f first caps=>.fn f (first.map (x9 sel k)) (caps.map (x9 sel k))
  | .v x=>.v x
  | .uv o sz rows=>.uv o sz rows
  | .jN cells=>.jN cells
  | .un=>.un
  | .za=>.za
def Env.u5 (E:Env) (sel:List Nat):Env:={ n:=sel.length,β:=fun i hops=>E.β ((sel[i]?).getD 0) hops,κ:=fun i hops=>E.κ ((sel[i]?).getD 0) hops,St:=E.St,G:=fun i k=>E.G ((sel[i]?).getD 0) k }
def Env.Dl (E:Env) (sel:List Nat):E.shut.le (E.u5 sel).shut:=⟨dW _,fun id hops hi=>absurd hi (gN _),fun id hops hi=>absurd hi (gN _),fun b o u hu=>hu,fun id _ _ hi=>absurd hi (gN _)⟩
def LL.u5 {E E':Env} {f:C->C} {cs:List C} {ys:List Value} (h:LL E cs ys) (hf:∀ c y,L E c y->L E' (f c) y):LL E' (cs.map f) ys:=
 ⟨aq h.1,fun i c y e1 e2=>by
  rw [dP] at e1;cases hx:cs[i]? with
  | none=>rw [hx] at e1;cases e1
  | some c0=>rw [hx] at e1;cases e1;exact hf c0 y (h.2 i c0 y hx e2)⟩
def L.u5 {E:Env} (sel:List Nat):∀ (k:Nat) {c:C} {y:Value},L E c y->L (E.u5 sel) (x9 sel k c) y:=by
 intro k
 induction k with
 | zero=>intro c y h;exact .za y
 | succ k ih=>
  intro c y h
  have pos:∀ {id i},posOf sel 0 id=some i->i < sel.length∧(sel[i]?).getD 0=id:=fun {id i} e=>by
   obtain ⟨_,h2⟩:=xZ e;rw [pY] at h2;exact ⟨(dL.1 h2).1,by rw [h2];rfl⟩
  cases h with
  | v x hx=>exact .v _ hx
  | uv o sz rows b off cap us ho hc hsz hst hL=>
   exact .uv o sz rows b off cap us ho hc hsz hst (fun i r k c e1 e2=>(hL i r k c e1 e2).mono (E.Dl sel))
  | xt o sz ho a=>exact .xt o sz ho a
  | jN cells b off us hst hL=>
   exact .jN cells b off us hst (fun k c e1=>(hL k c e1).mono (E.Dl sel))
  | ref id hops sz i j hn=>
   unfold x9;dsimp only;split
   ·rename_i id' e;obtain ⟨h1,h2⟩:=pos e;have:=L.ref (E:=E.u5 sel) id' hops sz i j h1;simp only [Env.u5,h2] at this;exact dy
   ·exact .za _
  | sl id hops sz lo len full cap hn hlen hf hf'=>
   unfold x9;dsimp only;split
   ·rename_i id' e;obtain ⟨h1,h2⟩:=pos e;have:=L.sl (E:=E.u5 sel) id' hops sz lo len full cap h1 hlen hf (by simp only [Env.u5,h2];exact hf');simp only [Env.u5,h2] at this;exact dy
   ·exact .za _
  | mp id hn=>
   unfold x9;dsimp only;split
   ·rename_i id' e;obtain ⟨h1,h2⟩:=pos e;have:=L.mp (E:=E.u5 sel) id' h1;simp only [Env.u5,h2] at this;exact dy
   ·exact .za _
  | agg cs ys h1 h2 h3=>
   have:=LL.u5 (f:=x9 sel k) (E':=E.u5 sel) (cs:=cs) (ys:=ys.toList) ⟨aq h1,fun i c y e1 e2=>h2 i c y e1 uY⟩ (fun c y hl=>ih hl);exact dg
  | u1 cs ys h1 h2=>
   have:=LL.u5 (f:=x9 sel k) (E':=E.u5 sel) (cs:=cs) (ys:=ys.toList) ⟨aq h1,fun i c y e1 e2=>h2 i c y e1 uY⟩ (fun c y hl=>ih hl);exact .u1 _ ys tR (fun i c y e1 e2=>this.2 i c y e1 uY)
  | fn f first caps ys zs h1 h2 h3 h4=>
   have t1:=LL.u5 (f:=x9 sel k) (E':=E.u5 sel) (cs:=first) (ys:=ys.toList) ⟨aq h1,fun i c y e1 e2=>h3 i c y e1 uY⟩ (fun c y hl=>ih hl);have t2:=LL.u5 (f:=x9 sel k) (E':=E.u5 sel) (cs:=caps) (ys:=zs.toList) ⟨aq h2,fun i c y e1 e2=>h4 i c y e1 uY⟩ (fun c y hl=>ih hl);exact dx
  | un=>exact .un
  | za y=>exact .za y
  | gl id sz rows y hn hg hl=>
   unfold x9;dsimp only;split
   ·rename_i id' e;obtain ⟨h1,h2⟩:=pos e;exact .gl id' sz rows y h1 (by simp only [Env.u5,h2];exact hg) (hl.mono (E.Dl sel))
   ·have h3:E.shut.le (E.u5 sel):=⟨gA _,fun id hops hi=>absurd hi (gN _),fun id hops hi=>absurd hi (gN _),fun b o u hu=>hu,fun id _ _ hi=>absurd hi (gN _)⟩;exact hl.mono h3
  | eZ t c y hl=>exact .eZ t _ y (ih hl)
def JS (sel:List Nat) (k:Nat) {c:C} (h:zy c=true):zy (x9 sel k c)=true:=by
 cases k with
 | zero=>rfl
 | succ k=>
  cases c with
  | uv o sz rows=>exact h
  | ref id hops sz i j=>unfold x9;dsimp only;split <;> rfl
  | sl id hops sz lo len full=>unfold x9;dsimp only;split <;> rfl
  | mp id=>unfold x9;dsimp only;split <;> rfl
  | gl id sz rows=>unfold x9;dsimp only;split <;> rfl
  | _=>rfl
def zK (sel:List Nat) (ob:Ob):Ob:=
 match ob with
 | ⟨kind,ty,sz,rows,fz⟩=>⟨kind,ty,sz,match kind with
  | 2=>rows
  | 4=>rows
  | _=>rows.map fun r=>r.map (x9 sel 9),fz⟩
def dead:Ob:=⟨0,0,0,[],0⟩
def xA (sel:List Nat) (H:zl):zl:=sel.map fun id=>zK sel ((H[id]?).getD dead)
def ym:List Nat->Bool
 | []=>true
 | x::xs=>!(xs.any (· == x)) && ym xs
def ka:∀ {l:List Nat},ym l=true->∀ (i j x:Nat),l[i]?= some x->l[j]?= some x->i=j
 | [],_,i,j,x,h,_=>by simp at h
 | y::l,h,i,j,x,h1,h2=>by
  simp only [ym,dU,gX,gP] at h;cases i with
  | zero=>
   cases j with
   | zero=>rfl
   | succ j=>
    simp at h1 h2;subst h1;exact absurd aj (h.1 _ (dO h2))
  | succ i=>
   cases j with
   | zero=>
    simp at h1 h2;subst h2;exact absurd aj (h.1 _ (dO h1))
   | succ j=>
    simp at h1 h2;rw [ka h.2 i j x h1 h2]
def L.UD {E:Env} {c:C} {y:Value} (h:L E c y) (hc:AQ c=true):L E.shut c y:=by
 cases h with
 | agg cs ys h1 h2 h3=>
  refine .agg cs ys h1 (fun i c y e1 e2=>(h2 i c y e1 e2).vL ?_) h3;exact dV.1 (show cs.all jf=true from hc) _ (dO e1)
 | v x hx=>exact (L.v (E:=E) _ hx).vL hc
 | uv o sz rows b off cap us ho h2 hsz hst hL=>exact (L.uv (E:=E) o sz rows b off cap us ho h2 hsz hst hL).vL hc
 | xt o sz ho a=>exact (L.xt (E:=E) o sz ho a).vL hc
 | jN cells b off us hst hL=>exact (L.jN (E:=E) cells b off us hst hL).vL hc
 | fn f first caps ys zs h1 h2 h3 h4=>exact (L.fn (E:=E) f first caps ys zs h1 h2 h3 h4).vL hc
 | _=>simp [AQ,jf,n5] at hc
def LL.closed {E E':Env} {t:List C} {ys:List Value} (h:LL E t ys) (hc:t.all AQ=true) (hs:E.shut.le E'):LL E' t ys:=
 ⟨h.1,fun i c y e1 e2=>((h.2 i c y e1 e2).UD (dV.1 hc _ (dO e1))).mono hs⟩
section
variable {B:Nat}
def xI {sel:List Nat} {H:zl} {i:Nat} {ob':Ob} (h:(xA sel H)[i]?= some ob') (z7:sel.all (fun id=>Nat.blt id H.length)=true):∃ id ob,sel[i]?= some id∧H[id]?= some ob∧ob'=zK sel ob:=by
 unfold xA at h;rw [dP] at h;cases hx:sel[i]? with
 | none=>rw [hx] at h;cases h
 | some id=>
  rw [hx] at h
  have ux:id < H.length:=by
   have:=dV.1 z7 id (dO hx);simpa [Nat.blt_eq] using this
  have h2:H[id]?= some H[id]:=aY
  simp only [dX,gu,h2,gY] at h;exact ⟨id,H[id],rfl,h2,h.symm⟩
def kO {sel:List Nat} {H:zl} {i:Nat} {hops:List eK} {sz:Nat} {rows:List (List C)} (z7:sel.all (fun id=>Nat.blt id H.length)=true) (eX:qP H=true) (h:z6 (xA sel H) i hops=some (sz,rows)):
  ∃ id ob rows0,sel[i]?= some id∧H[id]?= some ob∧z6 H id hops=some (sz,rows0)∧((ob.kind=2∧rows=rows0)∨(ob.kind=1∧hops=[]∧rows=rows0.map (fun r=>r.map (x9 sel 9))∧∀ r ∈ rows0,∀ c ∈ r,zy c=true)):=by
 obtain ⟨ob',ho',hk',hg'⟩:=jc h;obtain ⟨id,ob,h1,h2,rfl⟩:=xI ho' z7;obtain ⟨kind,ty,sz0,rows0,fz⟩:=ob;rcases hk' with hk | hk
 ·have hk:kind=1:=hk;subst hk
  have hno:∀ r ∈ rows0,∀ c ∈ r,zy c=true:=by
   have:=dV.1 eX _ (dO h2);dsimp only at this;simpa [dV] using this
  have hg2:vA sz0 (rows0.map fun r=>r.map (x9 sel 9)) hops=some (sz,rows):=hg'
  obtain ⟨rfl,e⟩:=kQ (fun i k c hc=>by
   unfold cellAt at hc;rw [dP] at hc;cases hx:rows0[i]? with
   | none=>rw [hx] at hc;cases hc
   | some r=>
    rw [hx] at hc;simp only [dX,gz,dP] at hc;cases hy:r[k]? with
    | none=>rw [hy] at hc;cases hc
    | some c0=>
     rw [hy] at hc;cases hc
     exact JS sel 9 (hno r (dO hx) c0 (dO hy))) hg2
  cases e
  exact ⟨id,_,rows0,h1,h2,by unfold z6;rw [h2];simp [qQ],.inr ⟨rfl,rfl,rfl,hno⟩⟩
 ·have hk:kind=2:=hk;subst hk;exact ⟨id,_,rows,h1,h2,bG,.inl ⟨rfl,rfl⟩⟩
def qd.u5 {w:World} {E:Env} {H:zl} (hh:qd w E H) (sel:List Nat) (z7:sel.all (fun id=>Nat.blt id H.length)=true) (ff:ym sel=true) (eX:qP H=true):qd w (E.u5 sel) (xA sel H) where
 n:=by simp [Env.u5,xA]
 u9 i ob' hops sz rows hob' hx:=by
  obtain ⟨id,ob,rows0,h1,h2,h3,h4⟩:=kO z7 eX hx;obtain ⟨id2,ob2,e1,e2,rfl⟩:=xI hob' z7;rw [h1] at e1;cases e1
  rw [h2] at e2;cases e2
  have hb:=hh.u9 id ob hops sz rows0 h2 h3;obtain ⟨cur,e,hg,hcs,hcell⟩:=hb.u9;have hβ:∀ hops,(E.u5 sel).β i hops=E.β id hops:=fun hops=>by simp [Env.u5,h1]
  have hκ:∀ hops,(E.u5 sel).κ i hops=E.κ id hops:=fun hops=>by simp [Env.u5,h1]
  have hkind:(zK sel ob).kind=ob.kind:=by obtain ⟨kind,ty,sz,rows,fz⟩:=ob;rfl
  rw [hkind];rcases h4 with ⟨hk,rfl⟩ | ⟨hk,rfl,rfl,hno⟩
  ·refine ⟨by rw [hκ];exact hb.len,hb.row,cur,e,by rw [hβ];exact hg,by rw [hκ];exact hcs,?_⟩;intro i' k c hc;obtain ⟨u,hu,ho⟩:=hcell i' k c hc;refine ⟨u,hu,?_⟩;unfold qT at ho ⊢;split at ho
   ·rw [hβ,hκ];exact ho
   ·refine ⟨?_,ho.2⟩;have h5:=ho.1;simp only [Env.at,hk,if_true] at h5 ⊢;exact h5.mono (E.Dl sel)
  ·refine ⟨by rw [hκ];simpa using hb.len,?_,cur,e,by rw [hβ];exact hg,by rw [hκ];exact hcs,?_⟩
   ·intro r hr;obtain ⟨r0,h5,rfl⟩:=gG.1 hr;simpa using hb.row r0 h5
   ·intro i' k c hc;unfold cellAt at hc;rw [dP] at hc;cases hx1:rows0[i']? with
    | none=>rw [hx1] at hc;cases hc
    | some r=>
     rw [hx1] at hc;simp only [dX,gz,dP] at hc;cases hy:r[k]? with
     | none=>rw [hy] at hc;cases hc
     | some c0=>
      rw [hy] at hc;cases hc
      obtain ⟨u,hu,ho⟩:=hcell i' k c0 (by unfold cellAt;rw [hx1];exact hy);have hn0:=hno r (dO hx1) c0 (dO hy);rw [qT.loose hn0] at ho;refine ⟨u,hu,(qT.loose (JS sel 9 hn0)).2 ⟨?_,ho.2⟩⟩;have h5:=ho.1;have hk2:¬ob.kind=2:=by rw [hk];decide
      simp only [Env.at,dN hk2] at h5 ⊢;exact h5.u5 sel 9
 inj i hops i' hops' x y hx hy he:=by
  obtain ⟨id,ob,rows0,h1,h2,h3,_⟩:=kO z7 eX (sz:=x.1) (rows:=x.2) (aq hx);obtain ⟨id',ob',rows0',h1',h2',h3',_⟩:=kO z7 eX (sz:=y.1) (rows:=y.2) (aq hy);simp only [Env.u5,h1,h1',gY] at he;obtain ⟨rfl,rfl⟩:=hh.inj id hops id' hops' _ _ h3 h3' he;exact ⟨ka ff _ _ _ h1 h1',rfl⟩
 qs:=hh.qs
 sep i hops x o u hx hu:=by
  obtain ⟨id,ob,rows0,h1,h2,h3,_⟩:=kO z7 eX (sz:=x.1) (rows:=x.2) (aq hx);simp only [Env.u5,h1,gY] at hu;obtain ⟨e1,ob2,e2,e3⟩:=hh.sep id hops _ o u h3 hu;rw [h2] at e2;cases e2
  refine ⟨e1,zK sel ob,?_,?_⟩
  ·unfold xA;rw [dP,h1];simp [h2]
  ·obtain ⟨kind,ty,sz,rows,fz⟩:=ob;exact e3
 ty i ob' hob' hk:=by
  obtain ⟨id,ob,h1,h2,rfl⟩:=xI hob' z7;obtain ⟨kind,ty,sz,rows,fz⟩:=ob;obtain ⟨cur,hc⟩:=hh.ty id _ h2 hk;exact ⟨cur,by simp only [Env.u5,h1,gY];exact hc⟩
 fz i ob' hob':=by
  obtain ⟨id,ob,h1,h2,rfl⟩:=xI hob' z7;obtain ⟨kind,ty,sz,rows,fz⟩:=ob;have:=hh.fz id _ h2;dsimp only [zK] at this ⊢;split
  ·exact dy
  ·exact dy
  ·simpa using this
def Be:Nat->Nat->List Nat->Bool
 | 0,_,_=>true
 | n+1,k,x::xs=>x == k && Be n (k+1) xs
 | _+1,_,[]=>false
def Jm:∀ {n k:Nat} {l:List Nat},Be n k l=true->n<=l.length∧∀ i,i < n->l[i]?= some (k+i)
 | 0,k,l,h=>⟨gA _,fun i hi=>absurd hi (gN _)⟩
 | n+1,k,x::xs,h=>by
  simp only [Be,dU,gT] at h;obtain ⟨h1,h2⟩:=Jm h.2;refine ⟨aq h1,fun i hi=>?_⟩;cases i with
  | zero=>simp [h.1]
  | succ i=>simp [h2 i aw];omega
 | n+1,k,[],h=>by simp [Be] at h
def vE (sel:List Nat) (ob:Ob):(zK sel ob).kind=ob.kind∧(zK sel ob).ty=ob.ty∧(zK sel ob).sz=ob.sz∧(zK sel ob).rows.length=ob.rows.length:=by
 obtain ⟨kind,ty,sz,rows,fz⟩:=ob;refine ⟨rfl,rfl,rfl,?_⟩;unfold zK;dsimp only;split <;> simp
def qE.u5 {E:Env} {H:zl} {sel:List Nat} (z7:sel.all (fun id=>Nat.blt id H.length)=true) {i b:Nat} (h:qE (E.u5 sel) (xA sel H) i b):∃ id,sel[i]?= some id∧qE E H id b:=by
 obtain ⟨ob',cap,h1,h2,h3,h4⟩:=h;obtain ⟨id,ob,e1,e2,rfl⟩:=xI h1 z7;obtain ⟨l1,l2,l3,l4⟩:=vE sel ob;rw [l4] at h3 h4;simp only [Env.u5,e1,gY] at h3;exact ⟨id,e1,ob,cap,e2,bH,h3,h4⟩
def F4 {sel:List Nat} {ob:Ob} (h:ob.kind=4):zK sel ob=ob:=by
 obtain ⟨kind,ty,sz,rows,fz⟩:=ob;cases h
 rfl
def jz.u5 {H:zl} {sel:List Nat} (z7:sel.all (fun id=>Nat.blt id H.length)=true) {i b:Nat} (h:jz (xA sel H) i b):∃ id,sel[i]?= some id∧jz H id b:=by
 obtain ⟨ob',r,t,h1,h2,h3,h4⟩:=h;obtain ⟨id,ob,e1,e2,rfl⟩:=xI h1 z7;have hk4:ob.kind=4:=by rw [<- (vE sel ob).1];exact h2
 rw [F4 hk4] at h3 h4;exact ⟨id,e1,ob,r,t,e2,hk4,h3,h4⟩
def jb.u5 {E:Env} {H:zl} {sel:List Nat} (z7:sel.all (fun id=>Nat.blt id H.length)=true) (eX:qP H=true) {b:Nat} (h:jb (E.u5 sel) (xA sel H) b):jb E H b:=by
 obtain ⟨i,hops,⟨sz,rows⟩,hx,rfl⟩:=h;obtain ⟨id,ob,rows0,h3,h4,h5,_⟩:=kO z7 eX hx;exact ⟨id,hops,_,h5,by simp [Env.u5,h3]⟩
def qu.u5 {w:World} {E:Env} {H:zl} (hh:qu w E H) (sel:List Nat) (z7:sel.all (fun id=>Nat.blt id H.length)=true) (ff:ym sel=true) (eX:qP H=true):qu w (E.u5 sel) (xA sel H) where
 base:=hh.base.u5 sel z7 ff eX
 uy:={
  val:=fun i ob' h1 h2=>by
   obtain ⟨id,ob,e1,e2,rfl⟩:=xI h1 z7;obtain ⟨l1,l2,l3,l4⟩:=vE sel ob;rw [l4];simp only [Env.u5,e1,gY];exact hh.uy.val id ob e2 bH
  u9:=fun i b ob' h1 h2=>by
   obtain ⟨id,e0,h3⟩:=h1.u5 z7;obtain ⟨id',ob,e1,e2,rfl⟩:=xI h2 z7;rw [e0] at e1;cases e1
   obtain ⟨l1,l2,l3,l4⟩:=vE sel ob;rw [l2,l3,l4];simp only [Env.u5,e0,gY];exact hh.uy.u9 id b ob h3 e2
  sep:=fun i b h1 h2=>by
   obtain ⟨id,e0,h3⟩:=h1.u5 z7;exact hh.uy.sep id b h3 (h2.u5 z7 eX)
  inj:=fun i i' b h1 h2=>by
   obtain ⟨id,e0,h3⟩:=h1.u5 z7;obtain ⟨id',e1,h4⟩:=h2.u5 z7;obtain rfl:=hh.uy.inj id id' b h3 h4;exact ka ff _ _ _ e0 e1
  st:=fun i b ob' o u h1 h2 h3=>by
   obtain ⟨id,e0,h4⟩:=h1.u5 z7;obtain ⟨id',ob,e1,e2,rfl⟩:=xI h2 z7;rw [e0] at e1;cases e1
   obtain ⟨l1,l2,l3,l4⟩:=vE sel ob;rw [l3,l4];exact hh.uy.st id b ob o u h4 e2 h3
  top:=fun i ob' k u h1 h2 h3=>by
   obtain ⟨id,ob,e1,e2,rfl⟩:=xI h1 z7;obtain ⟨l1,l2,l3,l4⟩:=vE sel ob;rw [l4];simp only [Env.u5,e1,gY] at h3;exact hh.uy.top id ob k u e2 bH h3
  fy:=fun i ob' r t h1 h2 h3=>by
   obtain ⟨id,ob,e1,e2,rfl⟩:=xI h1 z7;have hk4:ob.kind=4:=by rw [<- (vE sel ob).1];exact h2
   rw [F4 hk4] at h3;have:=dV.1 eX ob (dO e2);rw [hk4,h3.2,h3.1] at this;obtain ⟨p1,p2⟩:=hh.uy.fy id ob r t e2 hk4 h3;have ht:t.all AQ=true:=aq this
   rw [F4 hk4];exact ⟨p1,p2.map fun ys hl=>hl.closed ht ⟨gA _,fun _ _ h=>absurd h (gN _),fun _ _ h=>absurd h (gN _),fun _ _ _ h=>h,fun _ _ _ h=>absurd h (gN _)⟩⟩
  wF:=fun i i' b h1 h2=>by
   obtain ⟨id,e0,h3⟩:=h1.u5 z7;obtain ⟨id',e1,h4⟩:=h2.u5 z7;obtain rfl:=hh.uy.wF id id' b h3 h4;exact ka ff _ _ _ e0 e1 }
def zo.u5 (sel m:List Nat) (t:List C) (H:zl) (hB:Be B 0 sel=true) (z7:sel.all (fun id=>Nat.blt id H.length)=true) (ff:ym sel=true) (eX:qP H=true):zo B ⟨t,H⟩ ⟨(oT m 0 t).map (x9 sel 9),xA sel H⟩:=fun mm w E a hs=>by
 obtain ⟨h1,h2⟩:=Jm hB
 refine ⟨E.u5 sel,⟨hs.heap.u5 sel z7 ff eX,((Fj m t 0).LL hs.tmps).u5 (fun c y hl=>hl.u5 sel 9),hs.defers,by simpa [xA] using h1⟩,
  ⟨⟨fun id hops hi=>by simp [Env.u5,h2 id hi],fun id hops hi=>by simp [Env.u5,h2 id hi],fun _ _ _ h=>h,fun id k u hi hu=>by simpa [Env.u5,h2 id hi] using hu⟩,rfl,rfl,rfl,dW _,fun _ _ _=>rfl,fun b o u hu=>.inl hu,?_⟩⟩
 rintro b (hb | ⟨i,hb | hb⟩)
 ·exact .inr (.inl (hb.u5 z7 eX))
 ·obtain ⟨id,_,h3⟩:=hb.u5 z7;exact .inr (.inr ⟨id,.inl h3⟩)
 ·obtain ⟨id,_,h3⟩:=hb.u5 z7;exact .inr (.inr ⟨id,.inr h3⟩)
end
def WC.trans {c c' c'':C} (h:WC c c') (h':WC c' c''):WC c c'':=fun E y hl=>h' E y (h E y hl)
def WC.nil (sz sz':Nat):WC (.uv 1 sz []) (.uv 0 sz' []):=(WC.none 1 sz sz').trans (WC.share 1 sz' [])
def fJ.at:∀ {cs:List C} {i:Nat} {c c':C},cs[i]?= some c->WC c c'->fJ cs (cs.set i c')
 | [],i,c,c',h,hw=>by simp at h
 | x::xs,0,c,c',h,hw=>by simp at h;subst h;exact .cons hw (fJ.refl xs)
 | x::xs,i+1,c,c',h,hw=>.cons (.refl x) (fJ.at (aq h) hw)
def zo.cell {B:Nat} {s:S} (i:Nat) {c c':C} (h:s.tmps[i]?= some c) (hw:WC c c'):zo B s ⟨s.tmps.set i c',s.H⟩:=zo.tmps (fJ.at h hw)
def oB (t2:List C):List C->Prop:=
 List.rec (motive:=fun _=>List C->Prop) (fun t1=>match t1 with | []=>True | _::_=>False)
  (fun c' _ ih t1=>match t1 with
   | []=>False
   | c::cs=>match c' with
    | .za=>ih cs
    | c'=>c=c'∧ih cs) t2
def Gn:∀ {t2 t1:List C},oB t2 t1->fJ t1 t2
 | [],[],_=>.nil
 | [],_::_,h=>h.elim
 | _::_,[],h=>h.elim
 | c'::t2,c::t1,h=>by
  cases c' with
  | za=>exact .cons (.za c) (Gn (t2:=t2) (t1:=t1) h)
  | _=>
   obtain ⟨h1,h2⟩:=h;exact .cons (h1 ▸ .refl c) (Gn (t2:=t2) (t1:=t1) h2)
section
variable {P:Program} {B:Nat}
def zo.oB {t1 t2:List C} {H:zl} (h:Ab.oB t2 t1):zo B ⟨t1,H⟩ ⟨t2,H⟩:=zo.tmps (Gn h)
def zo.xv (n:Nat) {t1 t2:List C} {H1 H2:zl} (h:Ab.oB t2 t1) (hB:Nat.ble B n=true) (hn:Nat.ble n H1.length=true) (ht:t2.all (qY n 9)=true) (hr:qM n (H1.take n)=true) (hH:H1.take n=H2):zo B ⟨t1,H1⟩ ⟨t2,H2⟩:=by
 subst hH;exact (zo.oB h).trans (zo.drop (s:=⟨t2,H1⟩) n hB hn ht hr)
def zo.F6 {s:S} (t:Nat) {id sz len ty:Nat} {full:Bool} {rows:List (List C)} (ht:s.tmps[t]?= some (.sl id [] sz 0 len full)) (hob:s.H[id]?= some ⟨2,ty,sz,rows,0⟩) (hlen:len=rows.length)
  (hno:∀ r ∈ rows,∀ c ∈ r,zy c=true):
  zo B s ⟨s.tmps.set t (.uv (if full then 1 else 0) sz rows),s.H.set id ⟨2,ty,sz,rows,rows.length⟩⟩:=by
 have:=zo.freeze (B:=B) t ht hob rfl rfl (by simp [hlen]) hno;rw [yR _ hob] at this;simpa [hlen] using this
def qu.IT {w:World} {E:Env} {H:zl} (hh:qu w E H) {id sz len ty:Nat} {full:Bool} {rows:List (List C)} {y:Value} (hl:L E (.sl id [] sz 0 len full) y) (hob:H[id]?= some ⟨2,ty,sz,rows,0⟩) (hlen:len=rows.length)
  (hno:∀ r ∈ rows,∀ c ∈ r,zy c=true):
  ∃ E1,qu w E1 (H.set id ⟨2,ty,sz,rows,rows.length⟩)∧L E1 (.uv (if full then 1 else 0) sz rows) y∧Grow w E H w E1 (H.set id ⟨2,ty,sz,rows,rows.length⟩):=by
 obtain ⟨E1,hs,g⟩:=zo.F6 (B:=H.length) (s:=⟨[.sl id [] sz 0 len full],H⟩) 0 rfl hob hlen hno 0 w E ⟨#[y],[]⟩ ⟨hh,LL.one hl,gA _,dW _⟩;have hn:=hs.heap.n
 refine ⟨E1,hs.heap,hs.tmps.cons_inv.1,⟨⟨by rw [hn,hh.n];simp,fun id hops hi=>g.le.β id hops tE,fun id hops hi=>g.le.κ id hops tE,g.le.St,fun id k u hi=>g.le.G id k u tE⟩,
  g.os,g.tape,g.output,g.size,g.frame,g.jK,g.own⟩⟩
def zo.TX {s:S} (vid k:Nat) {id sz len ty vty vsz fz:Nat} {full:Bool} {r:List C} {rows:List (List C)} (hv:s.H[vid]?= some ⟨1,vty,vsz,[r],fz⟩) (hk:r[k]?= some (.sl id [] sz 0 len full)) (hob:s.H[id]?= some ⟨2,ty,sz,rows,0⟩) (hlen:len=rows.length)
  (hno:∀ r ∈ rows,∀ c ∈ r,zy c=true) (hr:r.all zy=true) (hr':(r.set k (.uv (if full then 1 else 0) sz rows)).all zy=true):
  zo B s ⟨s.tmps,(s.H.set id ⟨2,ty,sz,rows,rows.length⟩).set vid ⟨1,vty,vsz,[r.set k (.uv (if full then 1 else 0) sz rows)],fz⟩⟩:=fun m w E a hs=>by
 have hgb:z6 s.H vid []=some (vsz,[r]):=by unfold z6;rw [hv];simp [qQ]
 obtain ⟨cur,e,h3,h4,h5⟩:=(hs.heap.base.u9 _ _ _ _ _ hv hgb).u9;obtain ⟨u,hu,ho⟩:=h5 0 k _ (yN.2 ⟨rfl,hk⟩);rw [qT.loose rfl] at ho;have hl:L E (.sl id [] sz 0 len full) u:=aF
 obtain ⟨E1,hh1,hl1,g1⟩:=hs.heap.IT hl hob hlen hno;have hne:vid≠id:=by rintro rfl;rw [hv] at hob;cases hob
 have hob1:(s.H.set id ⟨2,ty,sz,rows,rows.length⟩)[vid]?= some ⟨1,vty,vsz,[r],fz⟩:=by rw [dY,dN (Ne.symm hne)];exact hv
 have hβ:E1.β vid []=E.β vid []:=g1.le.β vid [] (by rw [hs.heap.n];exact (dL.1 hv).1)
 have hcu:w.cell? ⟨E1.β vid [],k,none⟩=some u:=by
  unfold World.cell?;rw [hβ,h3];simpa using hu
 obtain ⟨hR,g2⟩:=hh1.Cq hob1 (r':=r.set k (.uv (if full then 1 else 0) sz rows)) aj hr hr' fun j c c' v e1 e2 hl' hv=>by
  rw [dY] at e2;split at e2
  ·rename_i e;subst e;rw [hcu] at hv;cases hv
   split at e2
   ·cases e2;exact hl1
   ·cases e2
  ·rw [e1] at e2;cases e2
   exact hl'
 exact c8
def qC.GH {f:FuncId} {args:List C} {r:C} (h:qC P f [] args fun c _=>yq 0 9 c=r):zb P f [] args r []:=fun w E vs hh hl=>by
 refine (h w E vs hh hl).mono ?_;rintro e w' ⟨c,H',v,E',rfl,rfl,h1,h2,g⟩;have h3:=h1.drop 0 (gA _) (by simp [qM]);rw [tY] at h3;have hn:E.n=0:=hh.n
 exact ⟨v,E'.cut 0,rfl,h3,h2.low 0 9,⟨⟨by rw [hn];exact gA _,fun id hops hi=>by rw [hn] at hi;omega,fun id hops hi=>by rw [hn] at hi;omega,g.le.St,fun id k u hi=>by rw [hn] at hi;omega⟩,g.os,g.tape,g.output,g.size,g.frame,g.jK,
  fun b h=>absurd h xg.none⟩⟩
def zb.zp {f:FuncId} {fn:Func} {c:Code} {args:List C} {r:C} (hf:P.funcs[f]?= some fn) (hb:fn.body=some c)
  (h:wpA P 0 c (entry fn args) [] fun ex t1 H1=>(ex=.ret∨ex=.normal)∧∃ s2,zo 0 ⟨t1,H1⟩ s2∧(kH P fn s2).map (yq 0 9)=some r):zb P f [] args r []:=by
 refine qC.GH (qC.wt (H:=[]) hf hb ((jy h).mono fun ex s1 ⟨hex,s2,hw,h2⟩=>?_));cases h3:kH P fn s2 with
 | none=>rw [h3] at h2;cases h2
 | some r0=>
  rw [h3] at h2;cases h2
  exact ⟨hex,s2,r0,hw,h3,rfl⟩
def ab {f:FuncId}{fn:Func}{c:Code}{args:List C}{r:C}{zQ:Prop}(hf:P.funcs[f]?= some fn)(z0:zQ)(hb:fn.body=some c:=by exact rfl)(ze:zQ->wpA P 0 c (entry fn args) [] fun ex t1 H1=>(ex=.ret∨ex=.normal)∧∃ s2,zo 0 ⟨t1,H1⟩ s2∧(kH P fn s2).map (yq 0 9)=some r:=by intro zh;(conv=>whnf);exact zh):zb P f [] args r []:=zb.zp hf hb (ze z0)
def zZ.seq {c:Code} {t:List C} {H:zl} {K:Exit->List C->zl->Prop} (N:Nat) (T:Nat->List C) (Hp:Nat->zl) (R:Nat->Prop) (h0:zo B ⟨t,H⟩ ⟨T 0,Hp 0⟩) (r0:R 0)
  (step:∀ k,k < N->R k->wpA P B c (T k) (Hp k) fun e t1 H1=>(e=.normal∧zo B ⟨t1,H1⟩ ⟨T (k+1),Hp (k+1)⟩∧R (k+1))∨(e≠.normal∧K e t1 H1))
  (done:R N->wpA P B c (T N) (Hp N) fun e t1 H1=>e≠.normal∧K e t1 H1):
  od P B c t H K:=by
 have key:∀ n k,k+n=N->R k->iz P B c (n+1) ⟨T k,Hp k⟩ fun ex s=>K ex s.tmps s.H:=by
  intro n
  induction n with
  | zero=>
   intro k hk hr;obtain rfl:k=N:=aw
   refine .step ((jy (done hr)).mono fun ex s1 ⟨hne,hK⟩=>?_);cases ex with
   | normal=>exact absurd rfl hne
   | _=>exact hK
  | succ n ih=>
   intro k hk hr;refine .step ((jy (step k aw hr)).post fun ex s1 h1=>?_);rcases h1 with ⟨rfl,hw,hr'⟩ | ⟨hne,hK⟩
   ·exact ⟨_,hw,(ih (k+1) aw hr':iz P B c (n+1) _ _)⟩
   ·refine ⟨s1,.refl s1,?_⟩;cases ex with
    | normal=>exact absurd rfl hne
    | _=>exact hK
 exact ⟨.pre h0 ⟨N+1,key N 0 aw r0⟩⟩
end
section
variable {P:Program} {B:Nat}
structure LoopN (P:Program) (B:Nat) (c:Code) (n:Nat) (t:List C) (H:zl) (K:Exit->List C->zl->Prop):Prop where
 out:iz P B c n ⟨t,H⟩ fun ex s=>K ex s.tmps s.H
def LoopN.step {c:Code} {n:Nat} {t:List C} {H:zl} {K:Exit->List C->zl->Prop}
  (h:wpA P B c t H fun e t1 H1=>(e=.normal∧LoopN P B c n t1 H1 K)∨(e≠.normal∧K e t1 H1)):LoopN P B c (n+1) t H K:=by
 refine ⟨.step ((jy h).post fun ex s1 h1=>?_)⟩;rcases h1 with ⟨rfl,h⟩ | ⟨hne,hK⟩
 ·exact ⟨s1,.refl s1,h.out⟩
 ·refine ⟨s1,.refl s1,?_⟩;cases ex with
  | normal=>exact absurd rfl hne
  | _=>exact hK
def od.CX {c:Code} (n:Nat) {t:List C} {H:zl} {K:Exit->List C->zl->Prop} (h:LoopN P B c n t H K):od P B c t H K:=⟨⟨n,h.out⟩⟩
end
section
variable {P:Program} {B:Nat}
def iC {x y:Code} {t:List C} {H:zl} {R:Exit->S->Prop} (h:wpA P B x t H fun e t1 H1=>(e=.normal∧∃ t2 H2,zo B ⟨t1,H1⟩ ⟨t2,H2⟩∧qW P B y ⟨t2,H2⟩ R)∨(e≠.normal∧R e ⟨t1,H1⟩)):qW P B (.seq x y) ⟨t,H⟩ R:=by
 refine .seq ((jy h).post fun ex s1 h1=>?_);rcases h1 with ⟨rfl,t2,H2,hw,hr⟩ | ⟨hne,hr⟩
 ·exact ⟨_,hw,hr⟩
 ·refine ⟨s1,.refl s1,?_⟩;cases ex with
  | normal=>exact absurd rfl hne
  | _=>exact hr
end
def behind:Nat->Code->Code
 | 0,c=>c
 | n+1,.seq _ y=>behind n y
 | _,c=>c
def cE {B:Nat}(n:Nat){t1 t2:List C}{H1 H2:zl}(h:Ab.oB t2 t1:=by (conv=>whnf);refine hZ ?_;exact trivial)(hB:Nat.ble B n=true:=by exact rfl)(hn:Nat.ble n H1.length=true:=by exact rfl)(ht:t2.all (qY n 9)=true:=by exact rfl)(hr:qM n (H1.take n)=true:=by exact rfl)(hH:H1.take n=H2:=by exact rfl):zo B ⟨t1,H1⟩ ⟨t2,H2⟩:=zo.xv n h hB hn ht hr hH
def cC {B:Nat}{t1 t2:List C}{H:zl}(h:Ab.oB t2 t1:=by (conv=>whnf);refine hZ ?_;exact trivial):zo B ⟨t1,H⟩ ⟨t2,H⟩:=zo.oB h
end Go.Ab
