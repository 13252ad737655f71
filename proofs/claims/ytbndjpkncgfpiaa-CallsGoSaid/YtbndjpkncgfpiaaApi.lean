/- The values that the program's functions take and hand back, as plain types, and how each stands as abstract cells. -/
import Derived.Test.YtbndjpkncgfpiaaAb1
namespace Go.Hy
open Go.Ab
set_option linter.unusedVariables false

abbrev Str := List UInt8
abbrev I (n : Int) : C := .v (.int .i64 n)
abbrev U (n : Int) : C := .v (.int .u64 n)
abbrev Bo (b : Bool) : C := .v (.bool b)
abbrev Tx (s : Str) : C := .v (.string ⟨⟨s⟩⟩)
def encI (n : Int) : List C := [I n]
def encU (n : Int) : List C := [U n]
def encB (b : Bool) : List C := [Bo b]
def encT (s : Str) : List C := [Tx s]
abbrev lI (l : List Int) : C := .lst 0 1 (l.map encI)
abbrev lU (l : List Int) : C := .lst 0 1 (l.map encU)
abbrev lB (l : List Bool) : C := .lst 0 1 (l.map encB)
abbrev lT (l : List Str) : C := .lst 0 1 (l.map encT)

/-- An integer that fits. -/
def i64 (n : Int) : Prop := -9223372036854775808 ≤ n ∧ n ≤ 9223372036854775807
def u64 (n : Int) : Prop := 0 ≤ n ∧ n ≤ 18446744073709551615
instance (n : Int) : Decidable (i64 n) := by unfold i64; infer_instance
instance (n : Int) : Decidable (u64 n) := by unfold u64; infer_instance

structure Ret where
  version : Int
  at_ : Int
  gone : Bool
def encR (r : Ret) : List C := [I r.version, I r.at_, Bo r.gone]
abbrev lR (l : List Ret) : C := .lst 0 3 (l.map encR)
def Ret.ok (r : Ret) : Prop := i64 r.version ∧ i64 r.at_

structure Lis where
  name : Str
  drain : Bool
  active : Int
  closed : Bool
def encL (l : Lis) : List C := [Tx l.name, Bo l.drain, I l.active, Bo l.closed]
abbrev lL (l : List Lis) : C := .lst 0 4 (l.map encL)
def Lis.ok (l : Lis) : Prop := l.name.length ≤ reachBytes ∧ i64 l.active

structure En where
  head : Int
  next : List Int
  active : Int
def encE (e : En) : List C := [U e.head, lI e.next, I e.active]
abbrev lE (l : List En) : C := .lst 0 3 (l.map encE)
def En.ok (e : En) : Prop := u64 e.head ∧ ((∀ x ∈ e.next, i64 x) ∧ e.next.length ≤ 17592186043904) ∧ i64 e.active

structure Gr where
  ticket : Int
  ends : List En
def encG (g : Gr) : List C := [U g.ticket, lE g.ends]
abbrev lG (l : List Gr) : C := .lst 0 2 (l.map encG)

structure Clu where
  name : Str
  policy : Int
  slots : Int
  health : List Bool
def encC (c : Clu) : List C := [Tx c.name, I c.policy, I c.slots, lB c.health]
abbrev lC (l : List Clu) : C := .lst 0 4 (l.map encC)

structure Rou where
  listen : Str
  host : Str
  path : Str
  cluster : Str
def encO (r : Rou) : List C := [Tx r.listen, Tx r.host, Tx r.path, Tx r.cluster]
abbrev lO (l : List Rou) : C := .lst 0 4 (l.map encO)

structure Cfg where
  listens : List Str
  routes : List Rou
  clusters : List Clu
def encF (c : Cfg) : List C := [lT c.listens, lO c.routes, lC c.clusters]

structure Rul where
  listen : Int
  host : Str
  path : Str
  cluster : Int
def encU4 (r : Rul) : List C := [I r.listen, Tx r.host, Tx r.path, I r.cluster]
abbrev lRul (l : List Rul) : C := .lst 0 4 (l.map encU4)

structure Sna where
  listens : List Str
  rules : List Rul
  clusters : List Clu
def encS (s : Sna) : List C := [lT s.listens, lRul s.rules, lC s.clusters]

structure Ver where
  snap : Sna
  groups : List Gr
  freed : Bool
def encV (v : Ver) : List C := encS v.snap ++ [lG v.groups, Bo v.freed]
abbrev lV (l : List Ver) : C := .lst 0 5 (l.map encV)

structure Wor where
  epoch : Int
  current : Int
  lock : Int
  pins : List Int
  versions : List Ver
  listens : List Lis
  counts : List (List Int)
  limbo : List Ret
def encCo (r : List Int) : List C := [lU r]
abbrev lCo (l : List (List Int)) : C := .lst 0 1 (l.map encCo)
def encW (w : Wor) : List C := [I w.epoch, I w.current, I w.lock, lI w.pins, lV w.versions, lL w.listens, lCo w.counts, lR w.limbo]

structure Opn where
  kind : Int
  listen : Str
  host : Str
  path : Str
  d0 : Int
  d1 : Int
  n : Int
  config : Cfg
def encP (o : Opn) : List C := [I o.kind, Tx o.listen, Tx o.host, Tx o.path, I o.d0, I o.d1, I o.n] ++ encF o.config
abbrev lP (l : List Opn) : C := .lst 0 10 (l.map encP)

structure Six where
  c0 : Int
  c1 : Int
  c2 : Int
  c3 : Int
  c4 : Int
  c5 : Int
def encX (x : Six) : List C := [U x.c0, U x.c1, U x.c2, U x.c3, U x.c4, U x.c5]

structure Ans where
  kind : Int
  version : Int
  cluster : Int
  end_ : Int
  slot : Int
  listen : Int
  n : Int
  counts : Six
def encA (a : Ans) : List C := [I a.kind, I a.version, I a.cluster, I a.end_, I a.slot, I a.listen, I a.n] ++ encX a.counts
abbrev lA (l : List Ans) : C := .lst 0 13 (l.map encA)

structure Mac where
  op : Opn
  thread : Int
  pc : Int
  epoch : Int
  version : Int
  listen : Int
  cluster : Int
  end_ : Int
  other : Int
  slot : Int
  word : Int
  link : Int
  i : Int
  k : Int
  sum : Int
  done : Bool
  answer : Ans
  counts : Six
def encM (m : Mac) : List C := encP m.op ++ [I m.thread, I m.pc, I m.epoch, I m.version, I m.listen, I m.cluster, I m.end_, I m.other, I m.slot, U m.word, I m.link, I m.i, I m.k, I m.sum, Bo m.done] ++ encA m.answer ++ encX m.counts

structure Eve where
  thread : Int
  op : Int
  access : Int
  cell : Int
  version : Int
  freed : Bool
  value : Int
  begin_ : Bool
  point : Bool
  done : Bool
  answer : Ans
def encEv (e : Eve) : List C := [I e.thread, I e.op, I e.access, I e.cell, I e.version, Bo e.freed, I e.value, Bo e.begin_, Bo e.point, Bo e.done] ++ encA e.answer
abbrev lEv (l : List Eve) : C := .lst 0 23 (l.map encEv)

structure Cal where
  thread : Int
  op : Int
  from_ : Int
  point : Int
  to_ : Int
  answer : Ans
def encCal (c : Cal) : List C := [I c.thread, I c.op, I c.from_, I c.point, I c.to_] ++ encA c.answer
abbrev lCal (l : List Cal) : C := .lst 0 18 (l.map encCal)

structure Scr where
  first : Cfg
  threads : List (List Opn)
  picks : List Int
def encOps (l : List Opn) : List C := [lP l]
abbrev lOps (l : List (List Opn)) : C := .lst 0 1 (l.map encOps)
def encScr (s : Scr) : List C := encF s.first ++ [lOps s.threads, lI s.picks]

end Go.Hy
