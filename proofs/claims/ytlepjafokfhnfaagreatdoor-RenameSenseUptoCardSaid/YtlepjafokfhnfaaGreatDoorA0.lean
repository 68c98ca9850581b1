/- A part of the proof of RenameSenseUpto (a program makes as much sense as it did, at the same item): a reckoner of the code over data, shown right, and what it gives; conditions stand with each theorem. -/
import Derived.Orders
import Derived.Below
import Derived.KernelRfl
import Derived.Laws.AppendOwn
import Derived.Laws.OwnMore
import Derived.Maps.AppendAt
import Derived.Deep.Draws
import Derived.Deep.OwnRows
import Derived.Deep.MidRow
import Derived.Laws.NewFold
import Derived.Laws.StructEq
import Derived.Great.BuildSlice
section
namespace Go.Ev
inductive DV (I : Nat → Type) : Type where
  | any
  | lit (v : Value)
  | sl (t : Nat) (xs : List (I t))
  | nils
inductive CV (I : Nat → Type) : Type where
  | d (x : DV I)
  | own (o ver : Nat)
  | ptr (b off : Nat)
  | rp (cs : List (DV I)) (off : Nat)
  | clo (f : Nat) (first caps : List (CV I))
  | mth (f : Nat) (m : List (CV I))          -- a method's value, its receiver a struct
  | fx (r : Nat)                             -- a thing of which calls alone know what it is
  | rq (cs : List (CV I)) (off : Nat)        -- a read-only run, with things in it
  -- what is handed over, in place of names:
  | ow (t : Nat) (xs : List (I t))
  | io (cs : List (CV I)) (off : Nat)
  | fd (x : I 1000003)
inductive AV (I : Nat → Type) : Type where
  | c (x : CV I)
  | agg (cs : List (CV I))
  | tup (cs : List (AV I))
  | any
abbrev RV (I : Nat → Type) : Type := AV I × List (CV I)
structure Obj (I : Nat → Type) where
  ver : Nat
  t : Nat
  xs : List (I t)
inductive MW (I : Nat → Type) : Type where
  | box (b : Nat) (cs : List (CV I))
  | obj (o : Nat) (x : Obj I)
  | fx (r : Nat) (x : I 1000003)
inductive Tree (α : Type) : Type 1 where
  | ret (a : α)
  | fail
  | ite (c : Prop) (d : Decidable c) (t e : Tree α)
  | bnd (T : Type) (o : Option T) (k : T → Tree α)
def Tree.bind {α β : Type} : Tree α → (α → Tree β) → Tree β
  | .ret a, f => f a
  | .fail, _ => .fail
  | .ite c d t e, f => .ite c d (t.bind f) (e.bind f)
  | .bnd T o k, f => .bnd T o fun x => (k x).bind f
def Tree.run {α : Type} : Tree α → Option α
  | .ret a => some a
  | .fail => none
  | .ite c _ t e => if c then t.run else e.run
  | .bnd _ o k => o.bind fun x => (k x).run
theorem Tree.run_bind {α β : Type} (t : Tree α) (f : α → Tree β) : (t.bind f).run = t.run.bind fun a => (f a).run := by
  induction t with
  | ret a => rfl
  | fail => rfl
  | ite c d t e iht ihe => simp only [Tree.bind, Tree.run]; split <;> simp [iht, ihe]
  | bnd T o k ih => cases o <;> simp [Tree.bind, Tree.run, ih]
structure AS (I : Nat → Type) where
  tmps : Nat → AV I
  boxes : Nat → Option (List (CV I))
  objs : Nat → Option (Obj I)
  fxs : Nat → Option (I 1000003)
def upd {α : Type} (f : Nat → α) (i : Nat) (v : α) : Nat → α := fun k => match Nat.beq k i with | true => v | false => f k
inductive TD where
  | bool | string | other
  | int (k : IntKind)
  | slice (e : Nat)
  | struct (fs : List (Nat × Nat))     -- offset, type
  | array (n e : Nat)
structure TI where
  size : Nat
  bytes : Nat
  zero : List Value
  td : TD
  cmp : Bool := true      -- may be compared
structure Env (I : Nat → Type) where
  ty : Nat → Option TI
  row : (t : Nat) → I t → List (DV I)
  made : (t : Nat) → List (DV I) → Option (I t)
  dflt : (t : Nat) → I t
  frep : I 1000003 → (Nat → Nat → Prop) → World → Value → List Nat → Prop := fun _ _ _ _ _ => False
  frame : ∀ (x : I 1000003) (S S' : Nat → Nat → Prop) (w w' : World) (v : Value) (fp : List Nat), frep x S w v fp → (∀ g o, S g o → S' g o) →
    (∀ g o u, S g o → w.cell? ⟨g, o, none⟩ = some u → w'.cell? ⟨g, o, none⟩ = some u) → (∀ k ∈ fp, w'.heap[k]? = w.heap[k]?) → frep x S' w' v fp := by intro _ _ _ _ _ _ _ h; exact h.elim
  io : Nat → Bool := fun _ => false      -- functions that write through what they are handed
  /-- Blocks that nobody is handed, and what they say of the world (tables that lie there from the start). -/
  glob : Nat → Prop := fun _ => False
  inv : World → Prop := fun _ => True
  invLt : ∀ w k, inv w → glob k → k < w.heap.size := by intro _ _ _ h; exact h.elim
  invKeep : ∀ w w', inv w → (∀ k, glob k → w'.heap[k]? = w.heap[k]?) → inv w' := by intros; trivial
def TI.agg (ti : TI) : Bool := match ti.td with | .struct _ | .array _ _ => true | _ => false
section
variable {I : Nat → Type}
def cv (v : Value) : CV I :=
  match v with
  | .slice none 0 0 => .d .nils
  | v => .d (.lit v)
def oneB : Value → Bool
  | .agg _ | .tuple _ => false
  | _ => true
def av (v : Value) : AV I :=
  match v with
  | .agg cs => match cs.toList.all oneB with
    | true => .agg (cs.toList.map cv)
    | false => .any
  | .tuple _ => .any
  | v => .c (cv v)
def AS.opd (s : AS I) : Operand → AV I
  | .tmp t => s.tmps t
  | .const v => av v
  | .global _ => .c (.d .any)
  | .func f => .c (.clo f [] [])
def AV.cells : AV I → Option (List (CV I))
  | .c x => some [x]
  | .agg cs => some cs
  | _ => none
def allCells : List (AV I) → Option (List (CV I))
  | [] => some []
  | x :: r => match x with
    | .c y => (allCells r).map (y :: ·)
    | _ => none
def cast? (t u : Nat) (xs : List (I t)) : Option (List (I u)) := if h : t = u then some (h ▸ xs) else none
def settle (ob : Nat → Option (Obj I)) : CV I → DV I
  | .d x => x
  | .own o v => match ob o with
    | some x => match Nat.beq x.ver v with
      | true => .sl x.t x.xs
      | false => .any
    | none => .any
  | _ => .any
mutual
def argC (bx : Nat → Option (List (CV I))) (ob : Nat → Option (Obj I)) : CV I → CV I
  | .d x => .d x
  | .own o v => .d (settle ob (.own o v))
  | .ptr b off => match bx b with
    | some cs => .rp (cs.map (settle ob)) off
    | none => .d .any
  | .rp cs off => .rp cs off
  | .clo f fs cs => .clo f (argCs bx ob fs) (argCs bx ob cs)
  | .mth f m => .mth f (argCs bx ob m)
  | _ => .d .any
def argCs (bx : Nat → Option (List (CV I))) (ob : Nat → Option (Obj I)) : List (CV I) → List (CV I)
  | [] => []
  | x :: xs => argC bx ob x :: argCs bx ob xs
end
def argA (bx : Nat → Option (List (CV I))) (ob : Nat → Option (Obj I)) : AV I → AV I
  | .c x => .c (argC bx ob x)
  | .agg cs => .agg (argCs bx ob cs)
  | _ => .any
inductive Key where
  | box (b : Nat) | obj (o : Nat) | fx (r : Nat)
  deriving DecidableEq
def Key.beq : Key → Key → Bool
  | .box a, .box b | .obj a, .obj b | .fx a, .fx b => Nat.beq a b
  | _, _ => false
def apartK : List Key → Bool
  | [] => true
  | k :: r => r.all (fun x => !k.beq x) && apartK r
section
variable (bx : Nat → Option (List (CV I))) (ob : Nat → Option (Obj I)) (fx : Nat → Option (I 1000003))
def packO (o v : Nat) : CV I × List Key :=
  match ob o with
  | some x => match Nat.beq x.ver v with
    | true => (.ow x.t x.xs, [.obj o])
    | false => (.d .any, [])
  | none => (.d .any, [])
def isFxC : CV I → Bool
  | .fx _ => true
  | _ => false
def packQ : List (CV I) → List (CV I) × List Key × List Key
  | [] => ([], [], [])
  | x :: r => match packQ r with
    | (ys, ks, qs) => match x with
      | .d x => (.d x :: ys, ks, qs)
      | .fx r => match fx r with
        | some x => (.fd x :: ys, .fx r :: ks, .fx r :: qs)
        | none => (.d .any :: ys, ks, qs)
      | _ => (.d .any :: ys, ks, qs)
def packL : List (CV I) → List (CV I) × List Key
  | [] => ([], [])
  | x :: r => match packL r with
    | (ys, ks) => match x with
      | .d x => (.d x :: ys, ks)
      | .own o v => match packO ob o v with
        | (y, k) => (y :: ys, k ++ ks)
      | _ => (.d .any :: ys, ks)
mutual
def packC (mv : Bool) : CV I → CV I × List Key × List Key
  | .d x => (.d x, [], [])
  | .own o v => match mv with
    | true => match packO ob o v with
      | (y, k) => (y, k, [])
    | false => (.d (settle ob (.own o v)), [], [])
  | .ptr b off => match bx b with
    | some cs => match !mv && cs.any isFxC with
      | true => match packQ fx cs with
        | (ys, ks, qs) => (.rq ys off, ks, qs)
      | false => match packL ob cs with
        | (ys, ks) => (.io ys off, .box b :: ks, [.box b])
    | none => (.d .any, [], [])
  | .rq cs off => match mv with
    | true => (.d .any, [], [])
    | false => match packCs mv cs with
      | (ys, k, r) => (.rq ys off, k, r)
  | .rp cs off => match mv with
    | true => (.d .any, [], [])
    | false => (.rp cs off, [], [])
  | .clo f a c => match packCs mv a, packCs mv c with
    | (a', k, r), (c', k', r') => (.clo f a' c', k ++ k', r ++ r')
  | .mth f m => match packCs mv m with
    | (m', k, r) => (.mth f m', k, r)
  | .fx r => match fx r with
    | some x => (.fd x, [.fx r], [.fx r])
    | none => (.d .any, [], [])
  | _ => (.d .any, [], [])
def packCs (mv : Bool) : List (CV I) → List (CV I) × List Key × List Key
  | [] => ([], [], [])
  | x :: r => match packC mv x, packCs mv r with
    | (y, k, q), (ys, ks, qs) => (y :: ys, k ++ ks, q ++ qs)
end
mutual
def packA (mv : Bool) : AV I → AV I × List Key × List Key
  | .c x => match packC bx ob fx mv x with
    | (y, k, q) => (.c y, k, q)
  | .agg cs => match packCs bx ob fx mv cs with
    | (ys, k, q) => (.agg ys, k, q)
  | .tup xs => match packAs mv xs with
    | (ys, k, q) => (.tup ys, k, q)
  | .any => (.any, [], [])
def packAs (mv : Bool) : List (AV I) → List (AV I) × List Key × List Key
  | [] => ([], [], [])
  | x :: r => match packA mv x, packAs mv r with
    | (y, k, q), (ys, ks, qs) => (y :: ys, k ++ ks, q ++ qs)
end
def packR : List Key → List (CV I) × List Key
  | [] => ([], [])
  | k :: r => match packR r with
    | (ys, ks) => match k with
      | .box b => match bx b with
        | some cs => match packL ob cs with
          | (zs, k') => (.io zs 0 :: ys, (.box b :: k') ++ ks)
        | none => (.d .any :: ys, ks)
      | .fx r => match fx r with
        | some x => (.fd x :: ys, [.fx r] ++ ks)
        | none => (.d .any :: ys, ks)
      | .obj _ => (.d .any :: ys, ks)
end
mutual
def unC (n : Nat) : CV I → CV I × List (MW I) × Nat
  | .ow t xs => (.own n 0, [.obj n ⟨0, t, xs⟩], n + 1)
  | .fd x => (.fx n, [.fx n x], n + 1)
  | .io cs off => match unCs (n + 1) cs with
    | (ys, ws, m) => (.ptr n off, ws ++ [.box n ys], m)
  | .clo f a c => match unCs n a with
    | (a', ws, m) => match unCs m c with
      | (c', ws', m') => (.clo f a' c', ws ++ ws', m')
  | .mth f c => match unCs n c with
    | (c', ws, m) => (.mth f c', ws, m)
  | .rq c off => match unCs n c with
    | (c', ws, m) => (.rq c' off, ws, m)
  | x => (x, [], n)
def unCs (n : Nat) : List (CV I) → List (CV I) × List (MW I) × Nat
  | [] => ([], [], n)
  | x :: r => match unC n x with
    | (y, ws, m) => match unCs m r with
      | (ys, ws', m') => (y :: ys, ws ++ ws', m')
end
mutual
def unA (n : Nat) : AV I → AV I × List (MW I) × Nat
  | .c x => match unC n x with
    | (y, ws, m) => (.c y, ws, m)
  | .agg cs => match unCs n cs with
    | (ys, ws, m) => (.agg ys, ws, m)
  | .tup xs => match unAs n xs with
    | (ys, ws, m) => (.tup ys, ws, m)
  | .any => (.any, [], n)
def unAs (n : Nat) : List (AV I) → List (AV I) × List (MW I) × Nat
  | [] => ([], [], n)
  | x :: r => match unA n x with
    | (y, ws, m) => match unAs m r with
      | (ys, ws', m') => (y :: ys, ws ++ ws', m')
end
mutual
def rootC : CV I → List Key
  | .ptr b _ => [.box b]
  | .fx r => [.fx r]
  | .clo _ a c => rootCs a ++ rootCs c
  | .mth _ m => rootCs m
  | .rq m _ => rootCs m
  | _ => []
def rootCs : List (CV I) → List Key
  | [] => []
  | x :: r => rootC x ++ rootCs r
end
mutual
def rootA : AV I → List Key
  | .c x => rootC x
  | .agg cs => rootCs cs
  | .tup xs => rootAs xs
  | .any => []
def rootAs : List (AV I) → List Key
  | [] => []
  | x :: r => rootA x ++ rootAs r
end
def boxKs : List Key → List Nat
  | [] => []
  | .box b :: r => b :: boxKs r
  | .fx b :: r => b :: boxKs r
  | _ :: r => boxKs r
def isFx : Key → Bool
  | .fx _ => true
  | _ => false
def elems (ob : Nat → Option (Obj I)) (u : Nat) : AV I → Option (List (I u))
  | .c x => match settle ob x with
    | .sl t xs => cast? t u xs
    | .nils => some []
    | _ => none
  | _ => none
def slen (ob : Nat → Option (Obj I)) (td : TD) : AV I → Option Int
  | .c x => match td, settle ob x with
    | .slice _, .sl _ xs => some (xs.length : Int)
    | .slice _, .nils => some 0
    | .string, .lit (.string s) => some (s.size : Int)
    | _, _ => none
  | _ => none
def bt (s : ByteArray) (i : Int) : Int := if h : i.toNat < s.size then ((s[i.toNat]'h).toNat : Int) else 0
def intOp (op : BinOp) (k : IntKind) (a b : Int) : Option Value :=
  match op with
  | .add => some (.int k (k.wrap (a + b)))
  | .sub => some (.int k (k.wrap (a - b)))
  | .mul => some (.int k (k.wrap (a * b)))
  | .eql => some (.bool (a == b))
  | .neq => some (.bool (a != b))
  | .lss => some (.bool (a < b))
  | .leq => some (.bool (a ≤ b))
  | .gtr => some (.bool (a > b))
  | .geq => some (.bool (a ≥ b))
  | .quo => if b = 0 then none else some (.int k (k.wrap (a.tdiv b)))
  | .rem => if b = 0 then none else some (.int k (a.tmod b))
  | _ => none
def bin (op : BinOp) (x y : AV I) : Tree (AV I) :=
  match x, y with
  | .c (.d (.lit (.int k a))), .c (.d (.lit (.int k' b))) => if k = k' then (match intOp op k a b with | some v => .ret (.c (.d (.lit v))) | none => .fail) else .fail
  | .c (.d (.lit (.string a))), .c (.d (.lit (.string b))) =>
    match op with
    | .add => .ite (((a.size + b.size : Nat) : Int) > IntKind.i64.max) inferInstance .fail (.ret (.c (.d (.lit (.string (a ++ b))))))
    | .eql => .ret (.c (.d (.lit (.bool (a.toList == b.toList)))))
    | .neq => .ret (.c (.d (.lit (.bool !(a.toList == b.toList)))))
    | _ => .fail
  | _, _ => .fail
def un (op : UnOp) (x : AV I) : Tree (AV I) :=
  match op, x with
  | .not, .c (.d (.lit (.bool b))) => .ret (.c (.d (.lit (.bool !b))))
  | .neg, .c (.d (.lit (.int k n))) => .ret (.c (.d (.lit (.int k (k.wrap (0 - n))))))
  | _, _ => .fail
def rdC (xs : List (CV I)) (ti : TI) (off : Nat) : Tree (AV I) :=
  match ti.agg with
  | true => match Nat.ble (off + ti.size) xs.length with
    | true => .ret (.agg ((xs.drop off).take ti.size))
    | false => .fail
  | false => match xs[off]? with
    | some x => .ret (.c x)
    | none => .fail
def putAt (xs ys : List (CV I)) (off : Nat) : List (CV I) := xs.take off ++ ys ++ xs.drop (off + ys.length)
variable (E : Env I) (sp : Nat → List (AV I) → Tree (RV I))
def kills (ob : Nat → Option (Obj I)) : List Key → List (MW I)
  | [] => []
  | .obj o :: r => match ob o with
    | some x => .obj o ⟨x.ver + 1, x.t, []⟩ :: kills ob r
    | none => kills ob r
  | _ :: r => kills ob r
def after (bx : Nat → Option (List (CV I))) (n : Nat) : List Key → List (CV I) → Option (List (MW I) × List (MW I) × List (MW I))
  | [], [] => some ([], [], [])
  | .box b :: r, .io cs _ :: q => match bx b with
    | some old => match Nat.beq old.length cs.length with
      | true => match unCs n cs with
        | (ys, ws, m) => match after bx m r q with
          | some (news, bs, fs) => some (ws ++ news, .box b ys :: bs, fs)
          | none => none
      | false => none
    | none => none
  | .fx k :: r, .fd x :: q => match after bx n r q with
    | some (news, bs, fs) => some (news, bs, .fx k x :: fs)
    | none => none
  | _, _ => none
def blanks (bx : Nat → Option (List (CV I))) : List Key → List (MW I)
  | [] => []
  | .box b :: r => match bx b with
    | some cs => .box b (cs.map fun _ => .d .any) :: blanks bx r
    | none => blanks bx r
  | _ :: r => blanks bx r
def freshM (bx : Nat → Option (List (CV I))) (ob : Nat → Option (Obj I)) (fx : Nat → Option (I 1000003)) (ws : List (MW I)) : Bool :=
  ws.all fun m => match m with
    | .box b _ => (bx b).isNone
    | .obj o _ => (ob o).isNone
    | .fx r _ => (fx r).isNone
mutual
def flatC : CV I → CV I
  | .ow t xs => .d (.sl t xs)
  | .clo f a c => .clo f (flatCs a) (flatCs c)
  | .mth f m => .mth f (flatCs m)
  | .d x => .d x
  | .rp cs off => .rp cs off
  | _ => .d .any
def flatCs : List (CV I) → List (CV I)
  | [] => []
  | x :: r => flatC x :: flatCs r
end
mutual
def flatA : AV I → AV I
  | .c x => .c (flatC x)
  | .agg cs => .agg (flatCs cs)
  | .tup xs => .tup (flatAs xs)
  | .any => .any
def flatAs : List (AV I) → List (AV I)
  | [] => []
  | x :: r => flatA x :: flatAs r
end
def baseOf (nm : Nat) : Nat := 10000000 + nm * 4096
def callR (cc : Bool) (nm : Nat) (bx : Nat → Option (List (CV I))) (ob : Nat → Option (Obj I)) (fx : Nat → Option (I 1000003)) (x : AV I) : Tree (AV I × List (MW I)) :=
  match cc with
  | true => match unA (baseOf nm) x with
    | (y, ws, _) => match freshM bx ob fx ws with
      | true => .ret (y, ws)
      | false => .fail
  | false => .ret (flatA x, [])
def callF (cc : Bool) (nm : Nat) (bx : Nat → Option (List (CV I))) (ob : Nat → Option (Obj I)) (fx : Nat → Option (I 1000003)) (f : Nat) (args : List (AV I)) : Tree (AV I × List (MW I)) :=
  (sp f args).bind fun r => match r with
    | (.c (.ow t xs), []) => match ob nm with
      | none => .ret (.c (.own nm 0), [.obj nm ⟨0, t, xs⟩])
      | some _ => .fail
    | (x, []) => callR cc nm bx ob fx x
    | _ => .fail
def callM (nm : Nat) (bx : Nat → Option (List (CV I))) (ob : Nat → Option (Obj I)) (fx : Nat → Option (I 1000003)) (f : Nat) (args : List (AV I)) : Tree (AV I × List (MW I)) :=
  match packAs bx ob fx false args with
  | (az, ks, qs) => match apartK ks with
    | true => (sp f az).bind fun r => match unA (baseOf nm) r.1 with
      | (y, ws, m) => match after bx m qs r.2 with
        | some (news, bs, fs) => match freshM bx ob fx (ws ++ news) with
          | true => .ret (y, kills ob ks ++ (blanks bx qs ++ (fs ++ ((ws ++ news) ++ bs))))
          | false => .fail
        | none => .fail
    | false => .fail
def callG (cc : Bool) (nm : Nat) (bx : Nat → Option (List (CV I))) (ob : Nat → Option (Obj I)) (fx : Nat → Option (I 1000003)) (f : Nat) (args : List (AV I)) : Tree (AV I × List (MW I)) :=
  match E.io f || (packAs bx ob fx false args).2.2.any isFx with
  | true => match cc with
    | true => callM sp nm bx ob fx f args
    | false => .fail
  | false => callF sp cc nm bx ob fx f (args.map (argA bx ob))
def appendT (nm : Nat) (ob : Nat → Option (Obj I)) (e : Nat) (s x : AV I) : Tree (AV I × List (MW I)) :=
  match elems ob e x, E.ty e with
  | some ys, some ti => if ti.size = 0 ∨ ti.bytes = 0 then .fail else
    match s with
    | .c (.d .nils) => match ob nm with
      | none => .ite (ys.length * ti.bytes ≤ 140737488355328) inferInstance (.ret (.c (.own nm 0), [.obj nm ⟨0, e, ys⟩])) .fail
      | some _ => .fail
    | .c (.own o v) =>
      match ob o with
      | some w => match Nat.beq w.ver v with
        | true => match cast? w.t e w.xs with
          | some xs => .ite ((xs ++ ys).length * ti.bytes ≤ 140737488355328) inferInstance (.ret (.c (.own o (v + 1)), [.obj o ⟨v + 1, e, xs ++ ys⟩])) .fail
          | none => .fail
        | false => .fail
      | none => .fail
    | _ => .fail
  | _, _ => .fail
def parts (fs : List (Nat × Nat)) : List (Nat × AV I) → List (CV I) → Option (List (CV I))
  | [], cs => some cs
  | (i, v) :: r, cs =>
    match fs[i]? with
    | some (off, ft) => match E.ty ft, v.cells with
      | some ti, some vs => if vs.length = ti.size ∧ off + vs.length ≤ cs.length then parts fs r (putAt cs vs off) else none
      | _, _ => none
    | none => none
def rowsOf (ob : Nat → Option (Obj I)) (e : Nat) : List (AV I) → Option (List (I e))
  | [] => some []
  | v :: r => match v.cells with
    | some vs => match E.made e (vs.map (settle ob)) with
      | some x => (rowsOf ob e r).map (x :: ·)
      | none => none
    | none => none
def fieldOf (t f : Nat) : Option (Nat × TI) :=
  match E.ty t with
  | some ti => match ti.td with
    | .struct fs => match fs[f]? with
      | some (off, ft) => (E.ty ft).map fun fi => (off, fi)
      | none => none
    | _ => none
  | none => none
def elemOf (t : Nat) : Option (Nat × TI) :=
  match E.ty t with
  | some ti => match ti.td with
    | .slice e => (E.ty e).map fun ei => (e, ei)
    | _ => none
  | none => none
def eqFs (eq : Nat → AV I → AV I → Option Bool) (xs ys : List (CV I)) : List (Nat × Nat) → Option Bool
  | [] => some true
  | (off, ft) :: r => match E.ty ft with
    | some fi => match (rdC xs fi off).run, (rdC ys fi off).run with
      | some x, some y => match eq ft x y, eqFs eq xs ys r with
        | some p, some q => some (p && q)
        | _, _ => none
      | _, _ => none
    | none => none
def eqT : Nat → Nat → AV I → AV I → Option Bool
  | 0, _, _, _ => none
  | n + 1, t, x, y => match E.ty t with
    | some ti => match ti.td, x, y with
      | .int _, .c (.d (.lit (.int k a))), .c (.d (.lit (.int k' b))) => if k = k' then some (a == b) else none
      | .bool, .c (.d (.lit (.bool a))), .c (.d (.lit (.bool b))) => some (a == b)
      | .string, .c (.d (.lit (.string a))), .c (.d (.lit (.string b))) => some (a.toList == b.toList)
      | .struct fs, .agg xs, .agg ys => match ti.cmp with
        | true => eqFs E (eqT n) xs ys fs
        | false => none
      | _, _, _ => none
    | none => none
def binT (op : BinOp) (t : Nat) (x y : AV I) : Tree (AV I) :=
  match x, y with
  | .c (.d (.lit (.bool _))), .c (.d (.lit (.bool _))) | .agg _, .agg _ => match op, eqT E 9 t x y with
    | .eql, some r => .ret (.c (.d (.lit (.bool r))))
    | .neq, some r => .ret (.c (.d (.lit (.bool !r))))
    | _, _ => .fail
  | x, y => bin op x y
def bound (ρ : Operand → AV I) (x : Option Operand) (d : Nat) : Option Int :=
  match x with
  | none => some d
  | some x => match ρ x with
    | .c (.d (.lit (.int _ i))) => some i
    | _ => none
def evOp (cc : Bool) (nm : Nat) (op : Op) (ρ : Operand → AV I) (bx : Nat → Option (List (CV I))) (ob : Nat → Option (Obj I)) (fx : Nat → Option (I 1000003)) : Tree (AV I × List (MW I)) :=
  let pure (v : AV I) : Tree (AV I × List (MW I)) := .ret (v, [])
  match op with
  | .move x | .assign x => pure (ρ x)
  | .box _ x => match bx nm, (ρ x).cells with
    | none, some cs => .ret (.c (.ptr nm 0), [.box nm cs])
    | _, _ => .fail
  | .alloc t => match bx nm, E.ty t with
    | none, some ti => .ret (.c (.ptr nm 0), [.box nm (ti.zero.map cv)])
    | _, _ => .fail
  | .load t a => match E.ty t with
    | some ti => match ρ a with
      | .c y => match y with
        | .ptr b off => match bx b with
          | some cs => (rdC cs ti off).bind pure
          | none => .fail
        | .rp cs off => (rdC (cs.map .d) ti off).bind pure
        | .rq cs off => (rdC cs ti off).bind pure
        | _ => .fail
      | _ => .fail
    | none => .fail
  | .store t a x => match E.ty t, ρ a with
    | some ti, .c (.ptr b off) => match bx b, (ρ x).cells with
      | some cs, some vs => if vs.length = ti.size ∧ off + ti.size ≤ cs.length then .ret (.tup [], [.box b (putAt cs vs off)]) else .fail
      | _, _ => .fail
    | _, _ => .fail
  | .nilCheck x => match ρ x with
    | .c y => match y with
      | .ptr b off => pure (.c (.ptr b off))
      | .rp cs off => pure (.c (.rp cs off))
      | .rq cs off => pure (.c (.rq cs off))
      | .clo f a b => pure (.c (.clo f a b))
      | .mth f m => pure (.c (.mth f m))
      | _ => .fail
    | _ => .fail
  | .binOp op t x y _ => (binT E op t (ρ x) (ρ y)).bind pure
  | .unOp op _ x => (un op (ρ x)).bind pure
  | .convert src dst x => match E.ty src, E.ty dst, ρ x with
    | some _, some ti, .c (.d (.lit (.int _ n))) => match ti.td with
      | .int k => pure (.c (.d (.lit (.int k (k.wrap n)))))
      | _ => .fail
    | _, _, _ => .fail
  | .fieldAddr t x f => match fieldOf E t f with
    | some (off, fi) => if fi.size = 0 then .fail else
      match ρ x with
      | .c y => match y with
        | .ptr b o => pure (.c (.ptr b (o + off)))
        | .rp cs o => pure (.c (.rp cs (o + off)))
        | .rq cs o => pure (.c (.rq cs (o + off)))
        | _ => .fail
      | _ => .fail
    | none => .fail
  | .field t x f => match fieldOf E t f, ρ x with
    | some (off, fi), .agg cs => (rdC cs fi off).bind pure
    | _, _ => .fail
  | .indexAddr t x i => match elemOf E t with
    | some (e, _) => match elems ob e (ρ x), ρ i with
      | some xs, .c (.d (.lit (.int _ i))) => .ite (0 ≤ i) inferInstance (.ite (i < (xs.length : Int)) inferInstance (pure (.c (.rp (E.row e (xs.getD i.toNat (E.dflt e))) 0))) .fail) .fail
      | _, _ => .fail
    | none => .fail
  | .index t x i => match E.ty t, ρ x, ρ i with
    | some ti, .c (.d (.lit (.string s))), .c (.d (.lit (.int _ i))) => match ti.td with
      | .string => .ite (0 ≤ i) inferInstance (.ite (i < (s.size : Int)) inferInstance (pure (.c (.d (.lit (.int .u8 (bt s i)))))) .fail) .fail
      | _ => .fail
    | _, _, _ => .fail
  | .extract x i => match ρ x with
    | .tup vs => match vs[i]? with
      | some v => pure v
      | none => .fail
    | _ => .fail
  | .makeFunc (.func f) first caps => match first.toList.map ρ, caps.toList.map ρ with
    | [.agg m], [] => pure (.c (.mth f m))
    | xs, ys => match allCells xs, allCells ys with
      | some a, some b => pure (.c (.clo f a b))
      | _, _ => .fail
  | .build t ps => match E.ty t with
    | some ti => match ti.td with
      | .struct fs => match fs.all fun p => (E.ty p.2).isSome with
        | true => match parts E fs (ps.toList.map fun (i, x) => (i, ρ x)) (ti.zero.map cv) with
          | some cs => pure (.agg cs)
          | none => .fail
        | false => .fail
      | _ => .fail
    | none => .fail
  | .buildSlice t n ps => match elemOf E t with
    | some (e, ei) => match rowsOf E ob e (ps.toList.map fun (_, x) => ρ x), ob nm with
      | some xs, none => if ps.toList.map (·.1) = List.range n ∧ n * ei.size ≤ 16777216 ∧ n ≤ 16777216 then .ret (.c (.own nm 0), [.obj nm ⟨0, e, xs⟩]) else .fail
      | _, _ => .fail
    | none => .fail
  | .call { callee := .value f, args, .. } => match ρ f with
    | .c (.clo f first caps) => match Nat.beq f 1000003 with
      | true => .fail
      | false => callG E sp cc nm bx ob fx f (first.map (AV.c ·) ++ args.toList.map ρ ++ caps.map (AV.c ·))
    | .c (.mth f m) => match Nat.beq f 1000003 with
      | true => .fail
      | false => callG E sp cc nm bx ob fx f (.agg m :: args.toList.map ρ)
    | .c (.fx r) => callG E sp cc nm bx ob fx 1000003 (.c (.fx r) :: args.toList.map ρ)
    | _ => .fail
  | .call { callee := .builtin .len, args, argTypes } => match args.toList, argTypes.toList with
    | [x], [t] => match E.ty t with
      | some ti => match slen ob ti.td (ρ x) with
        | some n => pure (.c (.d (.lit (.int .i64 n))))
        | none => .fail
      | none => .fail
    | _, _ => .fail
  | .call { callee := .builtin .append, args, argTypes } => match args.toList, argTypes.toList with
    | [s, x], [t, t'] => match Nat.beq t t', elemOf E t with
      | true, some (e, _) => appendT E nm ob e (ρ s) (ρ x)
      | _, _ => .fail
    | _, _ => .fail
  | .call { callee := .builtin .min, args, .. } => match args.toList.map ρ with
    | [.c (.d (.lit (.int k a))), .c (.d (.lit (.int k' b)))] => if k = k' then pure (.c (.d (.lit (.int k (if b < a then b else a))))) else .fail
    | _ => .fail
  | .call { callee := .builtin .max, args, .. } => match args.toList.map ρ with
    | [.c (.d (.lit (.int k a))), .c (.d (.lit (.int k' b)))] => if k = k' then pure (.c (.d (.lit (.int k (if b > a then b else a))))) else .fail
    | _ => .fail
  | .slice t x lo hi none => match E.ty t with
    | some ti => match ti.td, ρ x with
      | .string, .c (.d (.lit (.string s))) => match bound ρ lo 0, bound ρ hi s.size with
        | some l, some h => .ite (0 ≤ l) inferInstance (.ite (l ≤ h) inferInstance (.ite (h ≤ (s.size : Int)) inferInstance (pure (.c (.d (.lit (.string (s.extract l.toNat h.toNat)))))) .fail) .fail) .fail
        | _, _ => .fail
      | .slice e, x => match elems ob e x, E.ty e with
        | some xs, some _ => match bound ρ lo 0, bound ρ hi xs.length with
          | some l, some h => .ite (0 ≤ l) inferInstance (.ite (l ≤ h) inferInstance (.ite (h ≤ (xs.length : Int)) inferInstance (pure (.c (.d (.sl e ((xs.drop l.toNat).take (h.toNat - l.toNat)))))) .fail) .fail) .fail
          | _, _ => .fail
        | _, _ => .fail
      | _, _ => .fail
    | none => .fail
  | _ => .fail
def applyM : List (MW I) → AS I → AS I
  | [], s => s
  | .box b cs :: r, s => applyM r { s with boxes := upd s.boxes b (some cs) }
  | .obj o x :: r, s => applyM r { s with objs := upd s.objs o (some x) }
  | .fx q x :: r, s => applyM r { s with fxs := upd s.fxs q (some x) }
def putT (s : AS I) (dst : Option Nat) (v : AV I) : AS I :=
  match dst with
  | some d => { s with tmps := upd s.tmps d v }
  | none => s
def know (s : AS I) (d : Nat) (b : Bool) : AS I := { s with tmps := upd s.tmps d (.c (.d (.lit (.bool b)))) }
structure GV (I : Nat → Type) where
  d : Nat
  b : Bool
  v : AV I
def lookG (gs : Nat → Option (GV I)) (s : AS I) (p : Nat → Bool → Bool) (x : Operand) : AV I :=
  match x with
  | .tmp t => match gs t with
    | some g => match p g.d g.b with
      | true => g.v
      | false => s.tmps t
    | none => s.tmps t
  | x => s.opd x
def putG (gs : Nat → Option (GV I)) (dst : Option Nat) (g : Option (GV I)) : Nat → Option (GV I) :=
  match dst with
  | some t => upd gs t g
  | none => gs
def isB (d0 : Nat) (b0 : Bool) (d : Nat) (b : Bool) : Bool := Nat.beq d0 d && (match b0, b with | true, true => true | false, false => true | _, _ => false)
def no2 (_ : Nat) (_ : Bool) : Bool := false
def pickV (t : Bool) (x y : AV I) (ox oy : Operand) : Tree (AV I) :=
  match x, y with
  | .c (.d (.lit (.bool p))), .c (.d (.lit (.bool q))) =>
    match ox, oy with
    | _, .const (.bool false) => .ret (.c (.d (.lit (.bool (t && p)))))
    | .const (.bool true), _ => .ret (.c (.d (.lit (.bool (t || q)))))
    | _, _ => .ret (.c (.d (.lit (.bool (cond t p q)))))
  | x, y => .ite (t = true) inferInstance (.ret x) (.ret y)
def evPick (gs : Nat → Option (GV I)) (s : AS I) (p : Nat → Bool → Bool) (c x y : Operand) : Tree (AV I) :=
  match lookG gs s p c with
  | .c (.d (.lit (.bool t))) =>
    match c with
    | .tmp d => pickV t (lookG gs s (fun e b => p e b || isB d true e b) x) (lookG gs s (fun e b => p e b || isB d false e b) y) x y
    | _ => pickV t (lookG gs s p x) (lookG gs s p y) x y
  | _ => .fail
def evOpG (cc : Bool) (gs : Nat → Option (GV I)) (s : AS I) (p : Nat → Bool → Bool) (nm : Nat) (op : Op) : Tree (AV I × List (MW I)) :=
  match op with
  | .pick c x y => (evPick gs s p c x y).bind fun v => .ret (v, [])
  | op => evOp E sp cc nm op (lookG gs s p) s.boxes s.objs s.fxs
structure View where
  tm : Nat → Nat → Bool
  mem : Nat → Nat → Bool
  wb : Nat → Option Nat := fun _ => none
  nw : Nat → List Nat := fun _ => []      -- names that the operation may not write
def nameM : MW I → Nat
  | .box b _ => b
  | .obj o _ => o
  | .fx r _ => r
def chk1 (wb : Option Nat) (t : Tree (AV I × List (MW I))) : Tree (AV I × List (MW I)) :=
  match wb with
  | none => t
  | some d => t.bind fun r => match r.2.all fun m => Nat.beq (nameM m) d with
    | true => .ret r
    | false => .fail
def chk (wb : Option Nat) (nw : List Nat) (t : Tree (AV I × List (MW I))) : Tree (AV I × List (MW I)) :=
  match nw with
  | [] => chk1 wb t
  | _ => (chk1 wb t).bind fun r => match r.2.all fun m => nw.all fun k => !Nat.beq (nameM m) k with
    | true => .ret r
    | false => .fail
def hardOp : Op → Bool
  | .call _ | .index .. | .indexAddr .. | .slice .. => true
  | _ => false
def leads : Nat → List Oper → Nat → Bool
  | 0, _, _ => false
  | n + 1, ops, i => ops.zipIdx.any fun (q, k) => match q.guard with
    | some (j, _) => Nat.beq j i && (hardOp q.op || leads n ops k)
    | none => false
def way (led : Bool) (t : AV I) (r : Tree (AV I × List (MW I))) : Option (AV I) :=
  match r with
  | .ret (x, []) => match led, t with
    | true, .c (.d (.lit (.bool _))) => none
    | true, .tup [] => none
    | _, _ => some x
  | _ => none
def full : View := ⟨fun _ _ => true, fun _ _ => true, fun _ => none, fun _ => []⟩
def viewF {α : Type} (z : α) (p : Nat → Bool) (f : Nat → α) : Nat → α := fun t => match p t with | true => f t | false => z
def viewS (v : View) (i : Nat) (s : AS I) : AS I := ⟨viewF .any (v.tm i) s.tmps, viewF none (v.mem i) s.boxes, viewF none (v.mem i) s.objs, viewF none (v.mem i) s.fxs⟩
def evOps (cc : Op → Bool) (v : View) (ops : Array Oper) : List Oper → Nat → (Nat → Option (GV I)) → AS I → Tree (AS I)
  | [], _, _, s => .ret s
  | o :: rest, i, gs, s =>
    match o.guard with
    | none => (chk (v.wb i) (v.nw i) (evOpG E sp (cc o.op) (viewF none (v.tm i) gs) (viewS v i s) no2 (o.dst.getD 1000003) o.op)).bind fun r => evOps cc v ops rest (i + 1) (putG gs o.dst none) (applyM r.2 (putT s o.dst r.1))
    | some (j, b) => match (ops[j]?).bind (·.dst) with
      | some d =>
        match way (leads 9 ops.toList i) ((viewS v i s).tmps d) (evOpG E sp (cc o.op) (viewF none (v.tm i) gs) (viewS v i s) (isB d b) (o.dst.getD 1000003) o.op) with
        | some x => evOps cc v ops rest (i + 1) (putG gs o.dst (some ⟨d, b, x⟩)) (putT s o.dst .any)
        | none =>
          match (viewS v i s).tmps d with
          | .c (.d (.lit (.bool t))) => .ite (t = b) inferInstance
              ((chk (v.wb i) (v.nw i) (evOpG E sp (cc o.op) (viewF none (v.tm i) gs) (viewS v i (know s d b)) (isB d b) (o.dst.getD 1000003) o.op)).bind fun r => evOps cc v ops rest (i + 1) (putG gs o.dst none) (applyM r.2 (putT (know s d b) o.dst r.1)))
              (evOps cc v ops rest (i + 1) (putG gs o.dst none) (putT (know s d !b) o.dst (.tup [])))
          | .tup [] => evOps cc v ops rest (i + 1) (putG gs o.dst none) (putT s o.dst (.tup []))
          | _ => .fail
      | none => .fail
def plainOk (n : Nat) (ops : List Oper) : Bool :=
  Nat.ble n 1000000 && ops.zipIdx.all fun (o, i) =>
    (match o.dst with | some d => Nat.blt d n | none => true) &&
    match o.guard with
    | none => true
    | some (j, _) => Nat.blt j i && match (ops[j]?).bind (·.dst) with
      | some d => ops.zipIdx.all fun (q, k) => Nat.beq k j || match q.dst with | some e => !Nat.beq e d | none => true
      | none => false
def mask1 (acc : List Nat) (es : List Edge) : Nat :=
  es.foldl (fun m e => match Region.binds .any e && Nat.blt e.on acc.length with | true => m ||| (2 ^ e.on) ||| acc.getD e.on 0 | false => m) 0
def masks : List Oper → List Nat → List Nat
  | [], acc => acc
  | o :: r, acc => masks r (acc ++ [mask1 acc o.after.toList])
def class_ (cc : Bool) : Op → Nat
  | .move _ | .assign _ | .pick .. | .binOp .. | .unOp .. | .convert .. | .fieldAddr .. | .field .. | .index .. | .extract .. | .makeFunc .. | .nilCheck _ | .build .. => 0
  | .load .. | .indexAddr .. => 1
  | .call { callee := .builtin .len, .. } | .slice .. => 1
  | .call { callee := .builtin .min, .. } | .call { callee := .builtin .max, .. } => 0
  | .alloc _ | .box .. | .buildSlice .. => 2
  | .call { callee := .value _, .. } => cond cc 3 2
  | _ => 3
def wbox (ops : List Oper) (o : Oper) : Option Nat :=
  match o.op with
  | .store _ (.tmp d) _ => match ops.any fun q => (match q.dst with | some e => Nat.beq e d | none => false) && (match q.op with | .alloc _ | .box .. => true | _ => false) with
    | true => some d
    | false => none
  | _ => none
def cls (cc : Op → Bool) (ops : List Oper) (o : Oper) : Nat := match wbox ops o with
  | some _ => 4
  | none => class_ (cc o.op) o.op
def isLd : Op → Bool
  | .load .. => true
  | _ => false
def rootOf (ops : List Oper) : Nat → Nat → Nat
  | 0, t => t
  | n + 1, t => match ops.find? fun q => (match q.dst with | some e => Nat.beq e t | none => false) with
    | some q => match q.op with
      | .fieldAddr _ (.tmp u) _ | .nilCheck (.tmp u) | .move (.tmp u) => rootOf ops n u
      | _ => t
    | none => t
def ldRoot (ops : List Oper) (o : Oper) : Nat := match o.op with
  | .load _ (.tmp t) => rootOf ops 9 t
  | _ => 1000003
def okL (n : Nat) (op : Op) : Bool := Nat.beq n 0 || isLd op
def isD (a b : Option Nat) : Bool := match a, b with
  | some x, some y => Nat.beq x y
  | _, _ => false
def drawOk (cc : Op → Bool) (ops : List Oper) : Bool :=
  let m := masks ops []
  ops.zipIdx.all fun (x, i) =>
    (x.after.toList.all fun e => !Region.binds .any e || Nat.blt e.on i) &&
    (match x.guard with | some (j, _) => (m.getD i 0).testBit j | none => true) &&
    (!Nat.beq (cls cc ops x) 2 || x.dst.isSome) &&
    ops.zipIdx.all fun (y, j) =>
      !Nat.blt i j || (m.getD j 0).testBit i ||
      (x.apart ops.toArray y && !(Nat.beq (cls cc ops x) 3 && !okL (cls cc ops y) y.op) && !(Nat.beq (cls cc ops y) 3 && !okL (cls cc ops x) x.op) &&
        !isD (wbox ops x) (wbox ops y) && !isD (wbox ops x) y.dst && !isD x.dst (wbox ops y))
def freeB (m : List Nat) (i j : Nat) : Bool := !(Nat.beq j i || (m.getD i 0).testBit j || (m.getD j 0).testBit i)
def drawView (cc : Op → Bool) (ops : List Oper) : View :=
  let m := masks ops []
  ⟨fun i t => match ops[i]? with | some o => (o.looksAt ops.toArray).contains t | none => false,
   fun i k => match ops[i]? with
    | some o => !Nat.beq (cls cc ops o) 0 && (ops.zipIdx.all fun (q, j) => Nat.beq j i || (m.getD i 0).testBit j || (m.getD j 0).testBit i || ((match q.dst with | some e => !Nat.beq e k | none => true) && (match wbox ops q with | some e => !Nat.beq e k | none => true))) &&
      (!isLd o.op || (ops.zipIdx.all fun (q, j) => !(freeB m i j && Nat.beq (cls cc ops q) 3)) || Nat.beq k (ldRoot ops o))
    | none => false,
   fun i => match ops[i]? with | some o => wbox ops o | none => none,
   fun j => match ops[j]? with
    | some q => match Nat.beq (cls cc ops q) 3 with
      | true => ops.zipIdx.filterMap fun (o, i) => match isLd o.op && freeB m i j with | true => some (ldRoot ops o) | false => none
      | false => []
    | none => []⟩
def ccAll (_ : Op) : Bool := true
def ccNo (_ : Op) : Bool := false
def ccIo (io : Nat → Bool) : Op → Bool
  | .call { callee := .value (.func f), .. } => io f
  | _ => true
def evRegion (n : Nat) (ops : Array Oper) (draw : Bool) (s : AS I) : Tree (AS I) :=
  match plainOk n ops.toList, draw with
  | true, false => evOps E sp ccAll full ops ops.toList 0 (fun _ => none) s
  | true, true => match drawOk ccAll ops.toList with
    | true => evOps E sp ccAll (drawView ccAll ops.toList) ops ops.toList 0 (fun _ => none) s
    | false => match drawOk (ccIo E.io) ops.toList with
      | true => evOps E sp (ccIo E.io) (drawView (ccIo E.io) ops.toList) ops ops.toList 0 (fun _ => none) s
      | false => match drawOk ccNo ops.toList with
        | true => evOps E sp ccNo (drawView ccNo ops.toList) ops ops.toList 0 (fun _ => none) s
        | false => .fail
  | false, _ => .fail
inductive Out where
  | normal
  | exit (id : Nat)
  | ret
def firstRegion : Code → Option Nat
  | .region id _ _ => some id
  | .seq a b => match firstRegion a with | some r => some r | none => firstRegion b
  | .block _ a | .scope a | .loop a => firstRegion a
  | .cond _ a b => match firstRegion a with | some r => some r | none => firstRegion b
  | _ => none
structure Hint where
  tmps : List Nat
  boxes : List Nat := []
  own : List (Nat × Nat) := []   -- a temporary, its elements' type: its row becomes one's own, by that name
  cells : List (Nat × Nat × Nat) := []   -- likewise a box's cell
mutual
def scrubC (kb kf : List Nat) (ob : Nat → Option (Obj I)) : CV I → CV I
  | .d x => .d x
  | .own o v => .d (settle ob (.own o v))
  | .ptr b off => match kb.contains b with
    | true => .ptr b off
    | false => .d .any
  | .rp cs off => .rp cs off
  | .clo f fs cs => .clo f (scrubCs kb kf ob fs) (scrubCs kb kf ob cs)
  | .mth f m => .mth f (scrubCs kb kf ob m)
  | .rq cs off => .rq (scrubCs kb kf ob cs) off
  | .fx r => match kf.contains r with
    | true => .fx r
    | false => .d .any
  | _ => .d .any
def scrubCs (kb kf : List Nat) (ob : Nat → Option (Obj I)) : List (CV I) → List (CV I)
  | [] => []
  | x :: xs => scrubC kb kf ob x :: scrubCs kb kf ob xs
end
def scrubA (kb kf : List Nat) (ob : Nat → Option (Obj I)) : AV I → AV I
  | .c x => .c (scrubC kb kf ob x)
  | .agg cs => .agg (scrubCs kb kf ob cs)
  | _ => .any
def keepT (kb kf : List Nat) (s : AS I) : List Nat → Nat → AV I
  | [] => fun _ => .any
  | t :: r => upd (keepT kb kf s r) t (scrubA kb kf s.objs (s.tmps t))
def keepB (kb kf : List Nat) (s : AS I) : List Nat → Nat → Option (List (CV I))
  | [] => fun _ => none
  | t :: r => upd (keepB kb kf s r) t ((s.boxes t).map (scrubCs kb kf s.objs))
def keepF {α : Type} (kf : List Nat) (f : Nat → Option α) : Nat → Option α := fun r => match kf.contains r with
  | true => f r
  | false => none
def ownOf (ok : Nat → Bool) (s0 : AS I) (used : List Nat) (x : Option (CV I)) (e : Nat) : Option (List Nat × Obj I) :=
  match x with
  | some (.own o v) => match s0.objs o, used.contains o with
    | some w, false => match Nat.beq w.ver v with
      | true => some ([o], ⟨0, w.t, w.xs⟩)
      | false => none
    | _, _ => none
  | some (.d .nils) => match ok e with
    | true => some ([], ⟨0, e, []⟩)
    | false => none
  | _ => none
def oneC : AV I → Option (CV I)
  | .c x => some x
  | _ => none
def ownIt (ok : Nat → Bool) (s0 : AS I) : List (Nat × Nat) → List Nat → AS I → List Nat × AS I
  | [], used, s => (used, s)
  | (t, e) :: r, used, s =>
    match s.objs t, ownOf ok s0 used (oneC (s0.tmps t)) e with
    | none, some (us, x) => ownIt ok s0 r (us ++ used) { s with tmps := upd s.tmps t (.c (.own t 0)), objs := upd s.objs t (some x) }
    | _, _ => ownIt ok s0 r used s
def cellName (b j : Nat) : Nat := 1099511627776 + b * 4096 + j
def ownCells (ok : Nat → Bool) (s0 : AS I) : List (Nat × Nat × Nat) → List Nat → AS I → AS I
  | [], _, s => s
  | (b, j, e) :: r, used, s =>
    match s.boxes b, s.objs (cellName b j), ownOf ok s0 used ((s0.boxes b).bind (·[j]?)) e with
    | some cs, none, some (us, x) => ownCells ok s0 r (us ++ used) { s with boxes := upd s.boxes b (some (cs.set j (.own (cellName b j) 0))), objs := upd s.objs (cellName b j) (some x) }
    | _, _, _ => ownCells ok s0 r used s
def liveB (s : AS I) : List Nat → List Nat
  | [] => []
  | b :: r => match s.boxes b with
    | some _ => b :: liveB s r
    | none => liveB s r
def ofL {α : Type} (z : α) : List (Nat × α) → Nat → α
  | [], _ => z
  | (i, v) :: r, k => match Nat.beq k i with
    | true => v
    | false => ofL z r k
def canon (rts : List Nat) (h : Hint) (s : AS I) : AS I :=
  { tmps := ofL .any (h.tmps.map fun t => (t, s.tmps t)), boxes := ofL none ((rts ++ h.boxes).map fun b => (b, s.boxes b)), objs := ofL none ((h.own.map (·.1) ++ h.cells.map fun c => cellName c.1 c.2.1).map fun o => (o, s.objs o)), fxs := ofL none ((rts ++ h.boxes).map fun r => (r, s.fxs r)) }
def norm0 (ok : Nat → Bool) (rts : List Nat) (h : Hint) (s : AS I) : AS I :=
  let kb := liveB s (rts ++ h.boxes)
  match ownIt ok s h.own [] { tmps := keepT kb (rts ++ h.boxes) s h.tmps, boxes := keepB kb (rts ++ h.boxes) s kb, objs := fun _ => none, fxs := keepF (rts ++ h.boxes) s.fxs } with
  | (used, s1) => ownCells ok s h.cells used s1
def norm (ok : Nat → Bool) (rts : List Nat) (h : Hint) (s : AS I) : AS I := canon rts h (norm0 ok rts h s)
def loopN (body : AS I → Tree (Out × AS I)) (nrm : AS I → AS I) : Nat → AS I → Tree (Out × AS I)
  | 0, _ => .fail
  | k + 1, s => (body (nrm s)).bind fun r => match r with
    | (.normal, s') => loopN body nrm k s'
    | (x, s') => .ret (x, s')
def ev (hints : Nat → Hint) (rts : List Nat) (k n : Nat) : Code → AS I → Tree (Out × AS I)
  | .skip, s => .ret (.normal, s)
  | .region _ ops draw, s => (evRegion E sp n ops draw s).bind fun s => .ret (.normal, s)
  | .seq a b, s => (ev hints rts k n a s).bind fun r => match r with
    | (.normal, s') => ev hints rts k n b s'
    | (x, s') => .ret (x, s')
  | .cond c t e, s => match s.opd c with
    | .c (.d (.lit (.bool b))) => .ite (b = true) inferInstance (ev hints rts k n t s) (ev hints rts k n e s)
    | _ => .fail
  | .block id c, s => (ev hints rts k n c s).bind fun r => match r with
    | (.exit id', s') => match Nat.beq id' id with
      | true => .ret (.normal, s')
      | false => .ret (.exit id', s')
    | (x, s') => .ret (x, s')
  | .loop c, s => loopN (ev hints rts k n c) (norm (fun e => (E.ty e).isSome) rts (hints ((firstRegion c).getD 0))) k s
  | .exit id, s => .ret (.exit id, s)
  | .label _, s => .ret (.normal, s)
  | .ret, s => .ret (.ret, s)
  | _, _ => .fail
def resultOf (s : AS I) : ResultVar → Option (AV I)
  | .tmp t => match s.tmps t with
    | .c x => some (.c x)
    | .agg cs => some (.agg cs)
    | _ => none
  | .cell a t => match s.tmps a, E.ty t with
    | .c (.ptr b off), some ti => match s.boxes b with
      | some cs => (rdC cs ti off).run
      | none => none
    | _, _ => none
def resultsOf (s : AS I) : List ResultVar → Option (List (AV I))
  | [] => some []
  | r :: rs => match resultOf E s r with
    | some v => (resultsOf s rs).map (v :: ·)
    | none => none
def enterT : List (AV I) → Nat → Nat → AV I
  | [], _, _ => .tup []
  | a :: r, i, k => match Nat.beq k i with
    | true => a
    | false => enterT r (i + 1) k
def giveBack (s : AS I) (v : AV I) (roots : List Key) : Tree (RV I) :=
  match packA s.boxes s.objs s.fxs true v, packR s.boxes s.objs s.fxs roots with
  | (r, k, _), (os, k') => match apartK (k ++ k') with
    | true => .ret (r, os)
    | false => .fail
def one (vs : List (AV I)) : AV I :=
  match vs with
  | [v] => v
  | vs => .tup vs
def evFun (hints : Nat → Hint) (k : Nat) (fn : Func) (args : List (AV I)) : Tree (RV I) :=
  match fn.body with
  | none => .fail
  | some c => match unAs 1000004 args with
    | (az, ws, _) =>
      (ev E sp hints (boxKs (rootAs az)) k fn.ntmps c (applyM ws { tmps := enterT az 0, boxes := fun _ => none, objs := fun _ => none, fxs := fun _ => none })).bind fun r => match r with
      | (.exit _, _) => .fail
      | (_, s) => match resultsOf E s fn.results.toList with
        | some vs => giveBack s (one vs) (rootAs az)
        | none => .fail
abbrev Cont (I : Nat → Type) : Type 1 := Out → AS I → Tree (RV I)
def loopC (body : AS I → Cont I → Tree (RV I)) (nrm : AS I → AS I) : Nat → AS I → Cont I → Tree (RV I)
  | 0, _, _ => .fail
  | k + 1, s, κ => body s fun o s' => match o with
    | .normal => loopC body nrm k (nrm s') κ
    | x => κ x s'
def nrmOf (hints : Nat → Hint) (rts : List Nat) (c : Code) : AS I → AS I := norm (fun e => (E.ty e).isSome) rts (hints ((firstRegion c).getD 0))
def unblock (id : Nat) : Out → Out
  | .exit id' => match Nat.beq id' id with
    | true => .normal
    | false => .exit id'
  | x => x
def evC (hints : Nat → Hint) (rts : List Nat) (k n : Nat) : Code → AS I → Cont I → Tree (RV I)
  | .skip, s, κ => κ .normal s
  | .region _ ops draw, s, κ => (evRegion E sp n ops draw s).bind fun s => κ .normal s
  | .seq a b, s, κ => evC hints rts k n a s fun o s' => match o with
    | .normal => evC hints rts k n b s' κ
    | x => κ x s'
  | .cond c t e, s, κ => match s.opd c with
    | .c (.d (.lit (.bool b))) => .ite (b = true) inferInstance (evC hints rts k n t s κ) (evC hints rts k n e s κ)
    | _ => .fail
  | .block id c, s, κ => evC hints rts k n c s fun o s' => κ (unblock id o) s'
  | .loop c, s, κ => loopC (fun s κ => evC hints rts k n c s κ) (nrmOf E hints rts c) k (nrmOf E hints rts c s) κ
  | .exit id, s, κ => κ (.exit id) s
  | .label _, s, κ => κ .normal s
  | .ret, s, κ => κ .ret s
  | _, _, _ => .fail
def hasLoop (r : Nat) : Code → Bool
  | .seq a b | .cond _ a b => hasLoop r a || hasLoop r b
  | .block _ a => hasLoop r a
  | .loop a => (match firstRegion a with | some q => Nat.beq q r | none => false) || hasLoop r a
  | _ => false
def loopIn (hints : Nat → Hint) (rts : List Nat) (k n r : Nat) : Code → List Nat → Cont I → Option (Code × Cont I)
  | .seq a b, ks, κ => match hasLoop r a with
    | true => loopIn hints rts k n r a ks fun o s' => match o with
      | .normal => evC E sp hints rts k n b s' κ
      | x => κ x s'
    | false => loopIn hints rts k n r b ks κ
  | .cond _ a b, ks, κ => match hasLoop r a with
    | true => loopIn hints rts k n r a ks κ
    | false => loopIn hints rts k n r b ks κ
  | .block id a, ks, κ => loopIn hints rts k n r a ks fun o s' => κ (unblock id o) s'
  | .loop a, ks, κ => match firstRegion a, ks with
    | some q, ks => match Nat.beq q r, ks with
      | true, _ => some (a, κ)
      | false, j :: ks => loopIn hints rts k n r a ks fun o s' => match o with
        | .normal => loopC (fun s κ => evC E sp hints rts k n a s κ) (nrmOf E hints rts a) j (nrmOf E hints rts a s') κ
        | x => κ x s'
      | false, [] => none
    | none, _ => none
  | _, _, _ => none
inductive Kc where
  | any
  | sl (t : Nat)
  | ow (t : Nat)
def coC : Kc → CV I → CV I
  | .sl t, .d .nils => .d (.sl t [])
  | .sl _, .ow t xs => .d (.sl t xs)
  | .ow t, .d .nils => match E.ty t with
    | some _ => .ow t []
    | none => .d .nils
  | _, x => x
def coCs : List Kc → List (CV I) → List (CV I)
  | [], xs => xs
  | k :: ks, xs => match xs with
    | [] => []
    | x :: xs => coC E k x :: coCs ks xs
def coV (ks : List Kc) : AV I → AV I
  | .c x => match ks with
    | k :: _ => .c (coC E k x)
    | [] => .c x
  | .agg cs => .agg (coCs E ks cs)
  | v => v
def coVs : List (List Kc) → List (AV I) → List (AV I)
  | [], xs => xs
  | k :: ks, xs => match xs with
    | [] => []
    | x :: xs => coV E k x :: coVs ks xs
def coR (kr : List (List Kc)) : AV I → AV I
  | .tup vs => .tup (coVs E kr vs)
  | v => match kr with
    | [k] => coV E k v
    | _ => v
def coIO (ks : List Kc) : CV I → CV I
  | .io cs off => .io (coCs E ks cs) off
  | x => x
def coIOs : List (List Kc) → List (CV I) → List (CV I)
  | [], xs => xs
  | k :: ks, xs => match xs with
    | [] => []
    | x :: xs => coIO E k x :: coIOs ks xs
structure Co where
  res : List (List Kc)
  io : List (List Kc) := []
def co (c : Co) (r : RV I) : RV I := (coR E c.res r.1, coIOs E c.io r.2)
def finC (fn : Func) (c : Co) (roots : List Key) : Cont I := fun o s => match o with
  | .exit _ => .fail
  | _ => match resultsOf E s fn.results.toList with
    | some vs => (giveBack s (one vs) roots).bind fun r => .ret (co E c r)
    | none => .fail
def loopGo (hints : Nat → Hint) (c : Co) (roots : List Key) (k : Nat) (fn : Func) (r : Nat) (outer : List Nat) (j : Nat) (s : AS I) : Tree (RV I) :=
  match fn.body with
  | none => .fail
  | some b => match loopIn E sp hints (boxKs roots) k fn.ntmps r b outer (finC E fn c roots) with
    | some (a, κ) => loopC (fun s κ => evC E sp hints (boxKs roots) k fn.ntmps a s κ) (nrmOf E hints (boxKs roots) a) j s κ
    | none => .fail
def evFunC (hints : Nat → Hint) (c : Co) (k : Nat) (fn : Func) (args : List (AV I)) : Tree (RV I) :=
  match fn.body with
  | none => .fail
  | some b => match unAs 1000004 args with
    | (az, ws, _) => evC E sp hints (boxKs (rootAs az)) k fn.ntmps b (applyM ws { tmps := enterT az 0, boxes := fun _ => none, objs := fun _ => none, fxs := fun _ => none }) (finC E fn c (rootAs az))
end
end Go.Ev
end
section
namespace Go.Ev
variable {I : Nat → Type}
section reps
variable (E : Env I) (Sl : Nat → Nat → Prop) (w : World)
inductive DRep : Value → DV I → Prop
  | any (v : Value) (h : v.oneCell' = true) : DRep v .any
  | lit (v : Value) (h : v.oneCell' = true) : DRep v (.lit v)
  | nils : DRep (.slice none 0 0) .nils
  | sl (t : Nat) (xs : List (I t)) (A : Option Addr) (n c g o : Nat) (vs : Nat → Value) (hn : xs.length = n) (hcap : n ≤ c) (hm : n ≤ 9223372036854775807)
      (hA : 0 < n → A = some ⟨g, o, none⟩)
      (hc : ∀ i x j y, xs[i]? = some x → (E.row t x)[j]? = some y → w.cell? ⟨g, o + (i * (E.row t x).length + j), none⟩ = some (vs (i * (E.row t x).length + j)) ∧ Sl g (o + (i * (E.row t x).length + j)))
      (hr : ∀ i x j y, xs[i]? = some x → (E.row t x)[j]? = some y → DRep (vs (i * (E.row t x).length + j)) y) : DRep (.slice A n c) (.sl t xs)
structure Gam where
  b : Nat → Nat
  o : Nat → Value
  f : Nat → Value
  fp : Nat → List Nat
def Gam.fpK (γ : Gam) : Key → List Nat
  | .box b => [γ.b b]
  | .obj o => (γ.o o).ownBlock.toList
  | .fx r => γ.fp r
def Gam.valK (γ : Gam) : Key → Value
  | .box b => .pointer (some ⟨γ.b b, 0, none⟩)
  | .obj o => γ.o o
  | .fx r => γ.f r
variable (X : Nat → Prop) (B : Nat) (γ : Gam) (bx : Nat → Option (List (CV I))) (ob : Nat → Option (Obj I)) (fx : Nat → Option (I 1000003))
inductive CRep : Value → CV I → Prop
  | d (v : Value) (x : DV I) (h : DRep E Sl w v x) : CRep v (.d x)
  | own (v : Value) (o ver : Nat) (x : Obj I) (h : ob o = some x) (hle : ver ≤ x.ver) (h1 : v.oneCell' = true) (hv : x.ver = ver → v = γ.o o) : CRep v (.own o ver)
  | ptr (b off : Nat) (h : bx b ≠ none) : CRep (.pointer (some ⟨γ.b b, off, none⟩)) (.ptr b off)
  | rp (cs : List (DV I)) (off g o : Nat) (h : ∀ j y, cs[j]? = some y → ∃ v, w.cell? ⟨g, o + j, none⟩ = some v ∧ DRep E Sl w v y ∧ ((g < B ∧ ¬ X g) ∨ Sl g (o + j))) :
      CRep (.pointer (some ⟨g, o + off, none⟩)) (.rp cs off)
  | clo (f : Nat) (fs cs : Array Value) (first caps : List (CV I)) (hf : fs.size = first.length) (hc : cs.size = caps.length)
      (h1 : ∀ i x, first[i]? = some x → CRep (fs.getD i undef) x) (h2 : ∀ i x, caps[i]? = some x → CRep (cs.getD i undef) x) : CRep (.func (.func f) fs cs) (.clo f first caps)
  | mth (f : Nat) (vs : Array Value) (m : List (CV I)) (hl : vs.size = m.length) (h : ∀ i x, m[i]? = some x → CRep (vs.getD i undef) x) : CRep (.func (.func f) #[.agg vs] #[]) (.mth f m)
  | fx (r : Nat) (h : fx r ≠ none) (h1 : (γ.f r).oneCell' = true) : CRep (γ.f r) (.fx r)
  | rq (cs : List (CV I)) (off g o : Nat) (vs : Nat → Value) (hc : ∀ j y, cs[j]? = some y → w.cell? ⟨g, o + j, none⟩ = some (vs j) ∧ ((g < B ∧ ¬ X g) ∨ Sl g (o + j))) (h : ∀ j y, cs[j]? = some y → CRep (vs j) y) : CRep (.pointer (some ⟨g, o + off, none⟩)) (.rq cs off)
inductive VRep : Value → AV I → Prop
  | c (v : Value) (x : CV I) (h : CRep E Sl w X B γ bx ob fx v x) : VRep v (.c x)
  | agg (vs : Array Value) (cs : List (CV I)) (hl : vs.size = cs.length) (h : ∀ i x, cs[i]? = some x → CRep E Sl w X B γ bx ob fx (vs.getD i undef) x) : VRep (.agg vs) (.agg cs)
  | tup (vs : Array Value) (cs : List (AV I)) (hl : vs.size = cs.length) (h : ∀ i x, cs[i]? = some x → VRep (vs.getD i undef) x) : VRep (.tuple vs) (.tup cs)
  | any (v : Value) : VRep v .any
variable (X0 : Nat → Prop) (B0 : Nat)
mutual
inductive PRep : Value → CV I → List Nat → List Value → Prop
  | d (v : Value) (x : DV I) (h : DRep E Sl w v x) : PRep v (.d x) [] []
  | ow (v : Value) (t : Nat) (xs : List (I t)) (vals : List Value) (ti : TI) (ht : E.ty t = some ti) (hown : w.ownsRow 0 t ti.size v xs.length vals)
      (hr : ∀ i r j y, xs[i]? = some r → (E.row t r)[j]? = some y → ∃ u, vals[i * ti.size + j]? = some u ∧ DRep E Sl w u y)
      (hk : ∀ k, v.ownBlock = some k → ∀ j, Sl k j ↔ j < xs.length * ti.size) : PRep v (.ow t xs) v.ownBlock.toList []
  | io (g off : Nat) (vs : Array Value) (e : TypeId) (cs : List (CV I)) (fp : List Nat) (rs : List Value) (hg : w.heap[g]? = some (.cells vs e (0, 0))) (hl : vs.size = cs.length) (h : PReps vs.toList cs fp rs) (hs : ∀ j, ¬ Sl g j) :
      PRep (.pointer (some ⟨g, off, none⟩)) (.io cs off) (g :: fp) [.pointer (some ⟨g, 0, none⟩)]
  | fd (v : Value) (x : I 1000003) (fp : List Nat) (h : E.frep x Sl w v fp) (h1 : v.oneCell' = true) (hk : ∀ k ∈ fp, k < w.heap.size ∧ ∀ j, ¬ Sl k j) : PRep v (.fd x) fp [v]
  | rp (cs : List (DV I)) (off g o : Nat) (h : ∀ j y, cs[j]? = some y → ∃ v, w.cell? ⟨g, o + j, none⟩ = some v ∧ DRep E Sl w v y ∧ ((g < B0 ∧ ¬ X0 g) ∨ Sl g (o + j))) :
      PRep (.pointer (some ⟨g, o + off, none⟩)) (.rp cs off) [] []
  | clo (f : Nat) (fs cs : Array Value) (first caps : List (CV I)) (p1 p2 : List Nat) (r1 r2 : List Value) (h1 : PReps fs.toList first p1 r1) (h2 : PReps cs.toList caps p2 r2) : PRep (.func (.func f) fs cs) (.clo f first caps) (p1 ++ p2) (r1 ++ r2)
  | mth (f : Nat) (vs : Array Value) (m : List (CV I)) (fp : List Nat) (rs : List Value) (h : PReps vs.toList m fp rs) : PRep (.func (.func f) #[.agg vs] #[]) (.mth f m) fp rs
  | rq (us : List Value) (cs : List (CV I)) (off g o : Nat) (fp : List Nat) (rs : List Value) (hc : ∀ j y, us[j]? = some y → w.cell? ⟨g, o + j, none⟩ = some y ∧ ((g < B0 ∧ ¬ X0 g) ∨ Sl g (o + j))) (h : PReps us cs fp rs) :
      PRep (.pointer (some ⟨g, o + off, none⟩)) (.rq cs off) fp rs
inductive PReps : List Value → List (CV I) → List Nat → List Value → Prop
  | nil : PReps [] [] [] []
  | cons (v : Value) (vs : List Value) (x : CV I) (xs : List (CV I)) (p q : List Nat) (r t : List Value) (h : PRep v x p r) (hs : PReps vs xs q t) : PReps (v :: vs) (x :: xs) (p ++ q) (r ++ t)
end
mutual
inductive ARep : Value → AV I → List Nat → List Value → Prop
  | c (v : Value) (x : CV I) (p : List Nat) (r : List Value) (h : PRep E Sl w X0 B0 v x p r) : ARep v (.c x) p r
  | agg (vs : Array Value) (xs : List (CV I)) (p : List Nat) (r : List Value) (h : PReps E Sl w X0 B0 vs.toList xs p r) : ARep (.agg vs) (.agg xs) p r
  | tup (vs : Array Value) (xs : List (AV I)) (p : List Nat) (r : List Value) (h : AReps vs.toList xs p r) : ARep (.tuple vs) (.tup xs) p r
  | any (v : Value) : ARep v .any [] []
inductive AReps : List Value → List (AV I) → List Nat → List Value → Prop
  | nil : AReps [] [] [] []
  | cons (v : Value) (vs : List Value) (x : AV I) (xs : List (AV I)) (p q : List Nat) (r t : List Value) (h : ARep v x p r) (hs : AReps vs xs q t) : AReps (v :: vs) (x :: xs) (p ++ q) (r ++ t)
end
end reps
section mono
variable {E : Env I} {Sl Sl' : Nat → Nat → Prop} {w w' : World} {X X' : Nat → Prop} {B B' : Nat} {γ γ' : Gam} {bx bx' : Nat → Option (List (CV I))} {ob ob' : Nat → Option (Obj I)} {fx fx' : Nat → Option (I 1000003)}
theorem DRep.one {v : Value} {x : DV I} (h : DRep E Sl w v x) : v.oneCell' = true := by cases h <;> first | assumption | rfl
theorem CRep.one {v : Value} {x : CV I} (h : CRep E Sl w X B γ bx ob fx v x) : v.oneCell' = true := by
  cases h with
  | d v x h => exact h.one
  | own _ _ _ _ _ _ h1 => exact h1
  | fx _ _ h1 => exact h1
  | _ => rfl
theorem DRep.move {v : Value} {x : DV I} (h : DRep E Sl w v x) (hS : ∀ g o, Sl g o → Sl' g o) (hc : ∀ g o u, Sl g o → w.cell? ⟨g, o, none⟩ = some u → w'.cell? ⟨g, o, none⟩ = some u) : DRep E Sl' w' v x := by
  induction h with
  | any v h => exact .any v h
  | lit v h => exact .lit v h
  | nils => exact .nils
  | sl t xs A n c g o vs hn hcap hm hA hcell _ ih =>
    refine .sl t xs A n c g o vs hn hcap hm hA (fun i x j y hi hj => ?_) ih
    have := hcell i x j y hi hj
    exact ⟨hc _ _ _ this.2 this.1, hS _ _ this.2⟩
structure Moves (Sl Sl' : Nat → Nat → Prop) (w w' : World) (X : Nat → Prop) (B : Nat) (γ γ' : Gam) (bx bx' : Nat → Option (List (CV I))) (ob ob' : Nat → Option (Obj I)) (fx fx' : Nat → Option (I 1000003)) : Prop where
  S : ∀ g o, Sl g o → Sl' g o
  c : ∀ g o u, (Sl g o ∨ (g < B ∧ ¬ X g)) → w.cell? ⟨g, o, none⟩ = some u → w'.cell? ⟨g, o, none⟩ = some u
  b : ∀ b, bx b ≠ none → bx' b ≠ none ∧ γ'.b b = γ.b b
  o : ∀ o x, ob o = some x → ∃ x', ob' o = some x' ∧ x.ver ≤ x'.ver ∧ (x'.ver = x.ver → γ'.o o = γ.o o)
  f : ∀ r, fx r ≠ none → fx' r ≠ none ∧ γ'.f r = γ.f r
theorem CRep.move {v : Value} {x : CV I} (h : CRep E Sl w X B γ bx ob fx v x) (m : Moves Sl Sl' w w' X B γ γ' bx bx' ob ob' fx fx') : CRep E Sl' w' X B γ' bx' ob' fx' v x := by
  induction h with
  | d v x h => exact .d v x (h.move m.S fun g o u hs => m.c g o u (.inl hs))
  | own v o ver x h hle h1 hv =>
    obtain ⟨x', h', hx, hg⟩ := m.o o x h
    exact .own v o ver x' h' (Nat.le_trans hle hx) h1 fun he => by
      have : x.ver = ver := by omega
      rw [hv this, hg (by omega)]
  | ptr b off h =>
    obtain ⟨h1, h2⟩ := m.b b h
    rw [← h2]
    exact .ptr b off h1
  | rp cs off g o h =>
    refine .rp cs off g o fun j y hj => ?_
    obtain ⟨v, h1, h2, h3⟩ := h j y hj
    exact ⟨v, m.c _ _ _ h3.symm h1, h2.move m.S fun g o u hs => m.c g o u (.inl hs), h3.imp id (m.S _ _)⟩
  | clo f fs cs first caps hf hc _ _ i1 i2 => exact .clo f fs cs first caps hf hc i1 i2
  | mth f vs m hl _ ih => exact .mth f vs m hl ih
  | fx r h h1 =>
    obtain ⟨k1, k2⟩ := m.f r h
    rw [← k2] at h1 ⊢
    exact .fx r k1 h1
  | rq cs off g o vs hc _ ih =>
    refine .rq cs off g o vs (fun j y hj => ?_) ih
    obtain ⟨h1, h3⟩ := hc j y hj
    exact ⟨m.c _ _ _ h3.symm h1, h3.imp id (m.S _ _)⟩
theorem VRep.move {v : Value} {x : AV I} (h : VRep E Sl w X B γ bx ob fx v x) (m : Moves Sl Sl' w w' X B γ γ' bx bx' ob ob' fx fx') : VRep E Sl' w' X B γ' bx' ob' fx' v x := by
  induction h with
  | c v x h => exact .c v x (h.move m)
  | agg vs cs hl h => exact .agg vs cs hl fun i x hi => (h i x hi).move m
  | tup vs cs hl _ ih => exact .tup vs cs hl ih
  | any v => exact .any v
end mono
structure KeepX (X : Nat → Prop) (B : Nat) (w w' : World) : Prop where
  os : w'.os = w.os
  tape : w'.tape = w.tape
  output : w'.output = w.output
  size : w.heap.size ≤ w'.heap.size
  block : ∀ i, i < B → ¬ X i → w'.heap[i]? = w.heap[i]?
structure KeepI (E : Env I) (X : Nat → Prop) (B : Nat) (w w' : World) : Prop extends KeepX X B w w' where
  gl : ∀ k, X k → ¬ E.glob k
  iv : E.inv w
  gb : ∀ k, E.glob k → k < B
def Live (bx : Nat → Option (List (CV I))) (ob : Nat → Option (Obj I)) (fx : Nat → Option (I 1000003)) : Key → Prop
  | .box b => bx b ≠ none
  | .obj o => ob o ≠ none
  | .fx r => fx r ≠ none
structure Con (E : Env I) (X : Nat → Prop) (B : Nat) (w0 : World) (Sl0 : Nat → Nat → Prop) (Ex : Value → AV I → Prop) (γ : Gam) (Sl : Nat → Nat → Prop) (s : AS I) (a : Act) (w : World) : Prop where
  df : a.defers = []
  tm : ∀ t, VRep E Sl w X B γ s.boxes s.objs s.fxs (a.tmps.getD t undef) (s.tmps t)
  ex : ∀ v x, Ex v x → VRep E Sl w X B γ s.boxes s.objs s.fxs v x
  bx : ∀ b cs, s.boxes b = some cs → ∃ vs e, w.heap[γ.b b]? = some (.cells vs e (0, 0)) ∧ vs.size = cs.length ∧ (∀ j y, cs[j]? = some y → CRep E Sl w X B γ s.boxes s.objs s.fxs (vs.getD j undef) y) ∧ ∀ j, ¬ Sl (γ.b b) j
  ob : ∀ o x, s.objs o = some x → ∃ vals ti, E.ty x.t = some ti ∧ w.ownsRow 0 x.t ti.size (γ.o o) x.xs.length vals ∧
    (∀ i r j y, x.xs[i]? = some r → (E.row x.t r)[j]? = some y → ∃ u, vals[i * ti.size + j]? = some u ∧ DRep E Sl w u y) ∧
    ∀ k, (γ.o o).ownBlock = some k → ∀ j, Sl k j ↔ j < x.xs.length * ti.size
  fx : ∀ r x, s.fxs r = some x → E.frep x Sl w (γ.f r) (γ.fp r) ∧ (γ.f r).oneCell' = true ∧ (γ.fp r).Nodup ∧ ∀ k ∈ γ.fp r, k < w.heap.size ∧ ∀ j, ¬ Sl k j
  /-- All blocks are one's own, or those of X, -/
  mine : ∀ K k, Live s.boxes s.objs s.fxs K → k ∈ γ.fpK K → B ≤ k ∨ X k
  /-- and each has one owner. -/
  dj : ∀ K K' k, Live s.boxes s.objs s.fxs K → Live s.boxes s.objs s.fxs K' → k ∈ γ.fpK K → k ∈ γ.fpK K' → K = K'
  s0 : ∀ g o, Sl0 g o → Sl g o
  s1 : ∀ g o, Sl g o → Sl0 g o ∨ B ≤ g ∨ X g
  sh : ∀ g o, Sl g o → g < w.heap.size
  sc : ∀ g o u, Sl0 g o → w0.cell? ⟨g, o, none⟩ = some u → w.cell? ⟨g, o, none⟩ = some u
  kp : KeepI E X B w0 w
  hB : B ≤ w.heap.size
end Go.Ev
end
section
namespace Go.Ev
variable {I : Nat → Type}
theorem upd_same {α : Type} (f : Nat → α) (i : Nat) (v : α) : upd f i v i = v := by simp [upd]
theorem upd_other {α : Type} (f : Nat → α) (i k : Nat) (v : α) (h : k ≠ i) : upd f i v k = f k := by
  have : Nat.beq k i = false := by
    cases hb : Nat.beq k i with
    | false => rfl
    | true => exact absurd (Nat.eq_of_beq_eq_true hb) h
  simp [upd, this]
theorem upd_eq {α : Type} (f : Nat → α) (i k : Nat) (v : α) : upd f i v k = if k = i then v else f k := by
  by_cases h : k = i
  · subst h; simp [upd_same]
  · simp [upd_other _ _ _ _ h, h]
theorem cell_block {w : World} {g o : Nat} {u : Value} (h : w.cell? ⟨g, o, none⟩ = some u) : g < w.heap.size := World.block_lt_of_cell? w _ h
theorem cell_of {w : World} {g : Nat} {vs : Array Value} {e : TypeId} {fr : Nat × Nat} (h : w.heap[g]? = some (.cells vs e fr)) (j : Nat) : w.cell? ⟨g, j, none⟩ = vs[j]? := by
  simp [World.cell?, h]
theorem cell_same {w w' : World} {g o : Nat} (h : w'.heap[g]? = w.heap[g]?) : w'.cell? ⟨g, o, none⟩ = w.cell? ⟨g, o, none⟩ := by simp [World.cell?, h]
section
variable {E : Env I} {X : Nat → Prop} {B : Nat} {w0 : World} {Sl0 : Nat → Nat → Prop} {Ex : Value → AV I → Prop} {γ γ' : Gam} {Sl Sl' : Nat → Nat → Prop} {s s' : AS I} {a : Act} {w w' : World}
theorem KeepX.refl (X : Nat → Prop) (B : Nat) (w : World) : KeepX X B w w := ⟨rfl, rfl, rfl, Nat.le_refl _, fun _ _ _ => rfl⟩
theorem KeepX.of {X : Nat → Prop} {B : Nat} {w0 w w' : World} (h : KeepX X B w0 w) (h1 : w'.os = w.os) (h2 : w'.tape = w.tape) (h3 : w'.output = w.output) (h4 : w.heap.size ≤ w'.heap.size)
    (h5 : ∀ i, i < B → ¬ X i → w'.heap[i]? = w.heap[i]?) : KeepX X B w0 w' :=
  ⟨h1.trans h.os, h2.trans h.tape, h3.trans h.output, Nat.le_trans h.size h4, fun i hi hx => (h5 i hi hx).trans (h.block i hi hx)⟩
theorem KeepI.of {X : Nat → Prop} {B : Nat} {w0 w w' : World} (h : KeepI E X B w0 w) (h1 : w'.os = w.os) (h2 : w'.tape = w.tape) (h3 : w'.output = w.output) (h4 : w.heap.size ≤ w'.heap.size)
    (h5 : ∀ i, i < B → ¬ X i → w'.heap[i]? = w.heap[i]?) : KeepI E X B w0 w' := ⟨h.toKeepX.of h1 h2 h3 h4 h5, h.gl, h.iv, h.gb⟩
theorem KeepI.now {X : Nat → Prop} {B : Nat} {w0 w : World} (h : KeepI E X B w0 w) : E.inv w := E.invKeep w0 w h.iv fun k hk => h.block k (h.gb k hk) fun hx => h.gl k hx hk
theorem KeepI.apart {X : Nat → Prop} {B k : Nat} {w0 w : World} (h : KeepI E X B w0 w) (hk : B ≤ k ∨ X k) : ¬ E.glob k := fun hg => by
  rcases hk with hk | hk
  · have := h.gb k hg; omega
  · exact h.gl k hk hg
theorem ownsRow_block (w w' : World) (base e size : Nat) (v : Value) (n : Nat) (xs : List Value) (h : w.ownsRow base e size v n xs) (hb : ∀ k, v.ownBlock = some k → w'.heap[k]? = w.heap[k]?) : w'.ownsRow base e size v n xs := by
  refine ⟨h.1, ?_⟩
  rcases h.2 with hn | ⟨g, cap, cur, rfl, h1, hg, rest⟩
  · exact .inl hn
  · refine .inr ⟨g, cap, cur, rfl, h1, ?_, rest⟩
    rw [hb g rfl]; exact hg
theorem ownsRow_lt {w : World} {base e size : Nat} {v : Value} {n : Nat} {xs : List Value} (h : w.ownsRow base e size v n xs) {k : Nat} (hk : v.ownBlock = some k) : k < w.heap.size := (h.lt k hk).2
theorem Con.fp_lt (h : Con E X B w0 Sl0 Ex γ Sl s a w) {K : Key} {k : Nat} (hK : Live s.boxes s.objs s.fxs K) (hk : k ∈ γ.fpK K) : k < w.heap.size := by
  cases K with
  | box b =>
    cases hc : s.boxes b with
    | none => exact absurd hc hK
    | some cs =>
      obtain ⟨vs, e, h1, _⟩ := h.bx b cs hc
      have : k = γ.b b := by simpa [Gam.fpK] using hk
      subst this
      exact (Array.getElem?_eq_some_iff.1 h1).1
  | obj o =>
    cases hc : s.objs o with
    | none => exact absurd hc hK
    | some x =>
      obtain ⟨vals, ti, _, h1, _⟩ := h.ob o x hc
      exact ownsRow_lt h1 (by simpa [Gam.fpK] using hk)
  | fx r =>
    cases hc : s.fxs r with
    | none => exact absurd hc hK
    | some x => exact ((h.fx r x hc).2.2.2 k hk).1
theorem Con.box_lt (h : Con E X B w0 Sl0 Ex γ Sl s a w) {b : Nat} (hb : s.boxes b ≠ none) : γ.b b < w.heap.size := h.fp_lt (K := .box b) hb (by simp [Gam.fpK])
theorem Con.bi (h : Con E X B w0 Sl0 Ex γ Sl s a w) (b b' : Nat) (h1 : s.boxes b ≠ none) (h2 : s.boxes b' ≠ none) (he : γ.b b = γ.b b') : b = b' := by
  have := h.dj (.box b) (.box b') (γ.b b) h1 h2 (by simp [Gam.fpK]) (by simp [Gam.fpK, he])
  injection this
theorem Con.oi (h : Con E X B w0 Sl0 Ex γ Sl s a w) (o o' k : Nat) (h1 : s.objs o ≠ none) (h2 : s.objs o' ≠ none) (e1 : (γ.o o).ownBlock = some k) (e2 : (γ.o o').ownBlock = some k) : o = o' := by
  have := h.dj (.obj o) (.obj o') k h1 h2 (by simp [Gam.fpK, e1]) (by simp [Gam.fpK, e2])
  injection this
theorem Con.xo (h : Con E X B w0 Sl0 Ex γ Sl s a w) (o b : Nat) (h1 : s.objs o ≠ none) (h2 : s.boxes b ≠ none) (he : (γ.o o).ownBlock = some (γ.b b)) : False := by
  have := h.dj (.obj o) (.box b) (γ.b b) h1 h2 (by simp [Gam.fpK, he]) (by simp [Gam.fpK])
  cases this
theorem Con.xf (h : Con E X B w0 Sl0 Ex γ Sl s a w) (r b : Nat) (h1 : s.fxs r ≠ none) (h2 : s.boxes b ≠ none) (he : γ.b b ∈ γ.fp r) : False := by
  have := h.dj (.fx r) (.box b) (γ.b b) h1 h2 he (by simp [Gam.fpK])
  cases this
theorem Con.of' (h : Con E X B w0 Sl0 Ex γ Sl s a w) (r o k : Nat) (h1 : s.fxs r ≠ none) (h2 : s.objs o ≠ none) (he : k ∈ γ.fp r) (ho : (γ.o o).ownBlock = some k) : False := by
  have := h.dj (.fx r) (.obj o) k h1 h2 he (by simp [Gam.fpK, ho])
  cases this
theorem Con.on (h : Con E X B w0 Sl0 Ex γ Sl s a w) (h1 : w'.os = w.os) (h2 : w'.tape = w.tape) (h3 : w'.output = w.output) (h4 : w.heap.size ≤ w'.heap.size)
    (h5 : ∀ k, k < w.heap.size → w'.heap[k]? = w.heap[k]?) (hS : ∀ g o, Sl g o → Sl' g o) (hS' : ∀ g o, Sl' g o → Sl g o ∨ (w.heap.size ≤ g ∧ g < w'.heap.size)) :
    Con E X B w0 Sl0 Ex γ Sl' s a w' := by
  have m : Moves Sl Sl' w w' X B γ γ s.boxes s.boxes s.objs s.objs s.fxs s.fxs :=
    ⟨hS, fun g o u _ hu => (cell_same (h5 g (cell_block hu))).trans hu, fun b hb => ⟨hb, rfl⟩, fun o x hx => ⟨x, hx, Nat.le_refl _, fun _ => rfl⟩, fun r hr => ⟨hr, rfl⟩⟩
  have old : ∀ g o, Sl' g o → g < w.heap.size → Sl g o := fun g o hs hg => (hS' g o hs).elim id fun hx => by omega
  refine ⟨h.df, fun t => (h.tm t).move m, fun v x hx => (h.ex v x hx).move m, fun b cs hb => ?_, fun o x ho => ?_, fun r x hr => ?_, h.mine, h.dj, fun g o hs => hS g o (h.s0 g o hs), fun g o hs => ?_, fun g o hs => ?_, fun g o u hs hu => ?_, ?_, Nat.le_trans h.hB h4⟩
  · obtain ⟨vs, e, c1, c2, c3, c5⟩ := h.bx b cs hb
    have hlt : γ.b b < w.heap.size := (Array.getElem?_eq_some_iff.1 c1).1
    exact ⟨vs, e, (h5 _ hlt).trans c1, c2, fun j y hj => (c3 j y hj).move m, fun j hs => c5 j (old _ _ hs hlt)⟩
  · obtain ⟨vals, ti, c0, c1, c2, c3⟩ := h.ob o x ho
    refine ⟨vals, ti, c0, ownsRow_block w w' _ _ _ _ _ _ c1 (fun k hk => h5 k (ownsRow_lt c1 hk)), fun i r j y hi hj => ?_, fun k hk j => ?_⟩
    · obtain ⟨u, hu, hd⟩ := c2 i r j y hi hj
      exact ⟨u, hu, hd.move m.S fun g o u hs => m.c g o u (.inl hs)⟩
    · rw [← c3 k hk j]
      exact ⟨fun hs => old _ _ hs (ownsRow_lt c1 hk), fun hs => hS _ _ hs⟩
  · obtain ⟨c1, c2, cn, c3⟩ := h.fx r x hr
    exact ⟨E.frame x Sl Sl' w w' _ _ c1 hS (fun g o u hs => m.c g o u (.inl hs)) fun k hk => h5 k (c3 k hk).1, c2, cn, fun k hk => ⟨Nat.lt_of_lt_of_le (c3 k hk).1 h4, fun j hs => (c3 k hk).2 j (old _ _ hs (c3 k hk).1)⟩⟩
  · exact (hS' g o hs).elim (fun hs => h.s1 g o hs) fun hx => .inr (.inl (Nat.le_trans h.hB hx.1))
  · exact (hS' g o hs).elim (fun hs => Nat.lt_of_lt_of_le (h.sh g o hs) h4) fun hx => hx.2
  · exact m.c g o u (.inl (h.s0 g o hs)) (h.sc g o u hs hu)
  · exact h.kp.of h1 h2 h3 h4 fun i hi _ => h5 i (Nat.lt_of_lt_of_le hi h.hB)
theorem Con.put (h : Con E X B w0 Sl0 Ex γ Sl s a w) {dst : Option Nat} {u : Value} {v : AV I} (hd : ∀ d, dst = some d → d < a.tmps.size) (hv : VRep E Sl w X B γ s.boxes s.objs s.fxs u v) :
    Con E X B w0 Sl0 Ex γ Sl (putT s dst v) (a.put dst u) w := by
  cases dst with
  | none => exact h
  | some d =>
    refine { h with df := h.df, tm := fun t => ?_ }
    show VRep E Sl w X B γ s.boxes s.objs s.fxs ((a.tmps.setIfInBounds d u).getD t undef) (upd s.tmps d v t)
    by_cases ht : t = d
    · subst ht
      rw [upd_same]
      have := hd t rfl
      simpa [Array.getD_eq_getD_getElem?, Array.getElem?_setIfInBounds, this] using hv
    · rw [upd_other _ _ _ _ ht]
      have := h.tm t
      simpa [Array.getD_eq_getD_getElem?, Array.getElem?_setIfInBounds, Ne.symm ht] using this
def Gam.setB (γ : Gam) (b g : Nat) : Gam := ⟨fun k => if k = b then g else γ.b k, γ.o, γ.f, γ.fp⟩
def Gam.setO (γ : Gam) (o : Nat) (v : Value) : Gam := ⟨γ.b, fun k => if k = o then v else γ.o k, γ.f, γ.fp⟩
def Gam.setF (γ : Gam) (r : Nat) (v : Value) (fp : List Nat) : Gam := ⟨γ.b, γ.o, fun k => if k = r then v else γ.f k, fun k => if k = r then fp else γ.fp k⟩
theorem dj_new {L L' : Key → Prop} {γ γ' : Gam} {N : Key} (hdj : ∀ K K' k, L K → L K' → k ∈ γ.fpK K → k ∈ γ.fpK K' → K = K') (hL : ∀ K, L' K → K ≠ N → L K) (hg : ∀ K, L' K → K ≠ N → γ'.fpK K = γ.fpK K)
    (hn : ∀ K k, L K → k ∈ γ'.fpK N → k ∈ γ.fpK K → False) : ∀ K K' k, L' K → L' K' → k ∈ γ'.fpK K → k ∈ γ'.fpK K' → K = K' := by
  intro K K' k h1 h2 e1 e2
  by_cases a1 : K = N <;> by_cases a2 : K' = N
  · rw [a1, a2]
  · subst a1
    rw [hg K' h2 a2] at e2
    exact (hn K' k (hL K' h2 a2) e1 e2).elim
  · subst a2
    rw [hg K h1 a1] at e1
    exact (hn K k (hL K h1 a1) e2 e1).elim
  · rw [hg K h1 a1] at e1
    rw [hg K' h2 a2] at e2
    exact hdj K K' k (hL K h1 a1) (hL K' h2 a2) e1 e2
theorem mine_new {L L' : Key → Prop} {γ γ' : Gam} {N : Key} (hm : ∀ K k, L K → k ∈ γ.fpK K → B ≤ k ∨ X k) (hL : ∀ K, L' K → K ≠ N → L K) (hg : ∀ K, L' K → K ≠ N → γ'.fpK K = γ.fpK K)
    (hn : ∀ k, k ∈ γ'.fpK N → B ≤ k ∨ X k) : ∀ K k, L' K → k ∈ γ'.fpK K → B ≤ k ∨ X k := by
  intro K k h1 e1
  by_cases a1 : K = N
  · subst a1; exact hn k e1
  · rw [hg K h1 a1] at e1; exact hm K k (hL K h1 a1) e1
theorem Con.box (h : Con E X B w0 Sl0 Ex γ Sl s a w) {nm g : Nat} {cs : List (CV I)} {vs : Array Value} {e : TypeId} (hn : s.boxes nm = none) (hg : w.heap[g]? = some (.cells vs e (0, 0))) (hl : vs.size = cs.length)
    (hc : ∀ j y, cs[j]? = some y → CRep E Sl w X B γ s.boxes s.objs s.fxs (vs.getD j undef) y) (hB : B ≤ g ∨ X g) (hS : ∀ j, ¬ Sl g j) (hb : ∀ K, Live s.boxes s.objs s.fxs K → g ∉ γ.fpK K) :
    Con E X B w0 Sl0 Ex (γ.setB nm g) Sl { s with boxes := upd s.boxes nm (some cs) } a w ∧ Moves Sl Sl w w X B γ (γ.setB nm g) s.boxes (upd s.boxes nm (some cs)) s.objs s.objs s.fxs s.fxs := by
  have m : Moves Sl Sl w w X B γ (γ.setB nm g) s.boxes (upd s.boxes nm (some cs)) s.objs s.objs s.fxs s.fxs := by
    refine ⟨fun _ _ h => h, fun _ _ _ _ h => h, fun b hb => ?_, fun o x hx => ⟨x, hx, Nat.le_refl _, fun _ => rfl⟩, fun r hr => ⟨hr, rfl⟩⟩
    have : b ≠ nm := fun e => hb (e ▸ hn)
    exact ⟨by rw [upd_other _ _ _ _ this]; exact hb, by simp [Gam.setB, this]⟩
  have hbn : ∀ b, b ≠ nm → (γ.setB nm g).b b = γ.b b := fun b hb => by simp [Gam.setB, hb]
  have hbs : (γ.setB nm g).b nm = g := by simp [Gam.setB]
  have hL : ∀ K, Live (upd s.boxes nm (some cs)) s.objs s.fxs K → K ≠ .box nm → Live s.boxes s.objs s.fxs K := by
    intro K hK hne
    cases K with
    | box b =>
      have : b ≠ nm := fun e => hne (by rw [e])
      have hK : upd s.boxes nm (some cs) b ≠ none := hK
      rw [upd_other _ _ _ _ this] at hK; exact hK
    | obj o => exact hK
    | fx r => exact hK
  have hgK : ∀ K, Live (upd s.boxes nm (some cs)) s.objs s.fxs K → K ≠ .box nm → (γ.setB nm g).fpK K = γ.fpK K := by
    intro K hK hne
    cases K with
    | box b =>
      have : b ≠ nm := fun e => hne (by rw [e])
      simp [Gam.fpK, hbn b this]
    | obj o => rfl
    | fx r => rfl
  refine ⟨⟨h.df, fun t => (h.tm t).move m, fun v x hx => (h.ex v x hx).move m, fun b cs' hb' => ?_, fun o x hx => ?_, fun r x hr => h.fx r x hr, mine_new h.mine hL hgK ?_, dj_new h.dj hL hgK ?_, h.s0, h.s1, h.sh, h.sc, h.kp, h.hB⟩, m⟩
  · by_cases hbe : b = nm
    · subst hbe
      simp only [upd_same, Option.some.injEq] at hb'
      subst hb'
      rw [hbs]
      exact ⟨vs, e, hg, hl, fun j y hj => (hc j y hj).move m, hS⟩
    · simp only [upd_other _ _ _ _ hbe] at hb'
      obtain ⟨vs', e', c1, c2, c3, c5⟩ := h.bx b cs' hb'
      rw [hbn b hbe]
      exact ⟨vs', e', c1, c2, fun j y hj => (c3 j y hj).move m, c5⟩
  · obtain ⟨vals, ti, c0, c1, c2, c3⟩ := h.ob o x hx
    exact ⟨vals, ti, c0, c1, c2, c3⟩
  · intro k hk
    simp [Gam.fpK, hbs] at hk
    subst hk; exact hB
  · intro K k hK h1 h2
    simp [Gam.fpK, hbs] at h1
    subst h1; exact hb K hK h2
theorem Con.obj (h : Con E X B w0 Sl0 Ex γ Sl s a w) {nm : Nat} {x : Obj I} {v : Value} {vals : List Value} {ti : TI} (hn : s.objs nm = none) (ht : E.ty x.t = some ti) (hown : w.ownsRow 0 x.t ti.size v x.xs.length vals)
    (hr : ∀ i r j y, x.xs[i]? = some r → (E.row x.t r)[j]? = some y → ∃ u, vals[i * ti.size + j]? = some u ∧ DRep E Sl w u y)
    (hk : ∀ k, v.ownBlock = some k → (B ≤ k ∨ X k) ∧ ∀ j, Sl k j ↔ j < x.xs.length * ti.size)
    (hb : ∀ K k, Live s.boxes s.objs s.fxs K → v.ownBlock = some k → k ∉ γ.fpK K) :
    Con E X B w0 Sl0 Ex (γ.setO nm v) Sl { s with objs := upd s.objs nm (some x) } a w ∧ Moves Sl Sl w w X B γ (γ.setO nm v) s.boxes s.boxes s.objs (upd s.objs nm (some x)) s.fxs s.fxs := by
  have hon : ∀ b, b ≠ nm → (γ.setO nm v).o b = γ.o b := fun b hb => by simp [Gam.setO, hb]
  have hos : (γ.setO nm v).o nm = v := by simp [Gam.setO]
  have m : Moves Sl Sl w w X B γ (γ.setO nm v) s.boxes s.boxes s.objs (upd s.objs nm (some x)) s.fxs s.fxs := by
    refine ⟨fun _ _ h => h, fun _ _ _ _ h => h, fun b hb => ⟨hb, rfl⟩, fun o y hy => ?_, fun r hr => ⟨hr, rfl⟩⟩
    have : o ≠ nm := fun e => by rw [e, hn] at hy; cases hy
    exact ⟨y, by rw [upd_other _ _ _ _ this]; exact hy, Nat.le_refl _, fun _ => hon o this⟩
  have hL : ∀ K, Live s.boxes (upd s.objs nm (some x)) s.fxs K → K ≠ .obj nm → Live s.boxes s.objs s.fxs K := by
    intro K hK hne
    cases K with
    | obj b =>
      have : b ≠ nm := fun e => hne (by rw [e])
      have hK : upd s.objs nm (some x) b ≠ none := hK
      rw [upd_other _ _ _ _ this] at hK; exact hK
    | box o => exact hK
    | fx r => exact hK
  have hgK : ∀ K, Live s.boxes (upd s.objs nm (some x)) s.fxs K → K ≠ .obj nm → (γ.setO nm v).fpK K = γ.fpK K := by
    intro K hK hne
    cases K with
    | obj b =>
      have : b ≠ nm := fun e => hne (by rw [e])
      simp [Gam.fpK, hon b this]
    | box o => rfl
    | fx r => rfl
  refine ⟨⟨h.df, fun t => (h.tm t).move m, fun v x hx => (h.ex v x hx).move m, fun b cs hb => ?_, fun o y hy => ?_, fun r x hr => h.fx r x hr, mine_new h.mine hL hgK ?_, dj_new h.dj hL hgK ?_, h.s0, h.s1, h.sh, h.sc, h.kp, h.hB⟩, m⟩
  · obtain ⟨vs, e, c1, c2, c3, c5⟩ := h.bx b cs hb
    exact ⟨vs, e, c1, c2, fun j y hj => (c3 j y hj).move m, c5⟩
  · by_cases e : o = nm
    · subst e
      simp only [upd_same, Option.some.injEq] at hy
      subst hy
      rw [hos]
      exact ⟨vals, ti, ht, hown, hr, fun k hk' => (hk k hk').2⟩
    · simp only [upd_other _ _ _ _ e] at hy
      rw [hon o e]
      exact h.ob o y hy
  · intro k hk'
    simp only [Gam.fpK, hos, Option.mem_toList] at hk'
    exact (hk k hk').1
  · intro K k hK h1 h2
    simp only [Gam.fpK, hos, Option.mem_toList] at h1
    exact hb K k hK h1 h2
theorem Con.thing (h : Con E X B w0 Sl0 Ex γ Sl s a w) {nm : Nat} {x : I 1000003} {v : Value} {fp : List Nat} (hn : s.fxs nm = none) (hx : E.frep x Sl w v fp) (h1 : v.oneCell' = true) (hnd : fp.Nodup)
    (hk : ∀ k ∈ fp, k < w.heap.size ∧ (∀ j, ¬ Sl k j) ∧ (B ≤ k ∨ X k)) (hb : ∀ K k, Live s.boxes s.objs s.fxs K → k ∈ fp → k ∉ γ.fpK K) :
    Con E X B w0 Sl0 Ex (γ.setF nm v fp) Sl { s with fxs := upd s.fxs nm (some x) } a w ∧ Moves Sl Sl w w X B γ (γ.setF nm v fp) s.boxes s.boxes s.objs s.objs s.fxs (upd s.fxs nm (some x)) := by
  have hon : ∀ b, b ≠ nm → (γ.setF nm v fp).f b = γ.f b ∧ (γ.setF nm v fp).fp b = γ.fp b := fun b hb => by simp [Gam.setF, hb]
  have hos : (γ.setF nm v fp).f nm = v ∧ (γ.setF nm v fp).fp nm = fp := by simp [Gam.setF]
  have m : Moves Sl Sl w w X B γ (γ.setF nm v fp) s.boxes s.boxes s.objs s.objs s.fxs (upd s.fxs nm (some x)) := by
    refine ⟨fun _ _ h => h, fun _ _ _ _ h => h, fun b hb => ⟨hb, rfl⟩, fun o y hy => ⟨y, hy, Nat.le_refl _, fun _ => rfl⟩, fun r hr => ?_⟩
    have : r ≠ nm := fun e => hr (e ▸ hn)
    exact ⟨by rw [upd_other _ _ _ _ this]; exact hr, (hon r this).1⟩
  have hL : ∀ K, Live s.boxes s.objs (upd s.fxs nm (some x)) K → K ≠ .fx nm → Live s.boxes s.objs s.fxs K := by
    intro K hK hne
    cases K with
    | fx b =>
      have : b ≠ nm := fun e => hne (by rw [e])
      have hK : upd s.fxs nm (some x) b ≠ none := hK
      rw [upd_other _ _ _ _ this] at hK; exact hK
    | box o => exact hK
    | obj r => exact hK
  have hgK : ∀ K, Live s.boxes s.objs (upd s.fxs nm (some x)) K → K ≠ .fx nm → (γ.setF nm v fp).fpK K = γ.fpK K := by
    intro K hK hne
    cases K with
    | fx b =>
      have : b ≠ nm := fun e => hne (by rw [e])
      simp [Gam.fpK, (hon b this).2]
    | box o => rfl
    | obj r => rfl
  refine ⟨⟨h.df, fun t => (h.tm t).move m, fun v x hx => (h.ex v x hx).move m, fun b cs hb => ?_, fun o y hy => ?_, fun r y hr => ?_, mine_new h.mine hL hgK ?_, dj_new h.dj hL hgK ?_, h.s0, h.s1, h.sh, h.sc, h.kp, h.hB⟩, m⟩
  · obtain ⟨vs, e, c1, c2, c3, c5⟩ := h.bx b cs hb
    exact ⟨vs, e, c1, c2, fun j y hj => (c3 j y hj).move m, c5⟩
  · exact h.ob o y hy
  · by_cases e : r = nm
    · subst e
      simp only [upd_same, Option.some.injEq] at hr
      subst hr
      rw [hos.1, hos.2]
      exact ⟨hx, h1, hnd, fun k hk' => ⟨(hk k hk').1, (hk k hk').2.1⟩⟩
    · simp only [upd_other _ _ _ _ e] at hr
      rw [(hon r e).1, (hon r e).2]
      exact h.fx r y hr
  · intro k hk'
    simp only [Gam.fpK, hos.2] at hk'
    exact (hk k hk').2.2
  · intro K k hK h1 h2
    simp only [Gam.fpK, hos.2] at h1
    exact hb K k hK h1 h2
end
end Go.Ev
end
section
namespace Go.Ev
variable {I : Nat → Type}
def tdOf : TypeDesc → TD
  | .bool => .bool
  | .string => .string
  | .int k => .int k
  | .slice e => .slice e
  | .struct fs => .struct (fs.toList.map fun f => (f.offset, f.type))
  | .array n e => .array n e
  | .named _ _ => .other
  | _ => .other
inductive DLe : DV I → DV I → Prop
  | refl (x : DV I) : DLe x x
  | nil (t : Nat) : DLe .nils (.sl t [])
structure EnvOK (P : Program) (E : Env I) : Prop where
  mixed : P.follows .mixedOrders = true
  info : ∀ t ti, E.ty t = some ti → (P.info? t).map (fun i => (i.size, i.bytes, i.zero.map fun z => z.cells.toList)) = some (ti.size, ti.bytes, some ti.zero)
  und : ∀ t ti, E.ty t = some ti → (P.underlying t).map tdOf = some ti.td
  zero : ∀ t ti, E.ty t = some ti → ti.zero.length = ti.size ∧ ∀ z ∈ ti.zero, oneB z = true
  cmp : ∀ t ti, E.ty t = some ti → ti.cmp = true → P.stoodInHeld t = false ∧ P.eqGuardType P.depth t = false ∧ ∀ fs, P.underlying t = some (.struct fs) → ∀ f ∈ fs.toList, f.name ≠ "_"
  row : ∀ t ti x, E.ty t = some ti → (E.row t x).length = ti.size
  madeLen : ∀ (t : Nat) (cs : List (DV I)) (x : I t), E.made t cs = some x → cs.length = (E.row t x).length
  made : ∀ (t : Nat) (cs : List (DV I)) (x : I t), E.made t cs = some x → ∀ (j : Nat) (y : DV I), (E.row t x)[j]? = some y → ∃ y' : DV I, cs[j]? = some y' ∧ DLe y' y
theorem oneB_eq (v : Value) : oneB v = v.oneCell' := by cases v <;> rfl
section
variable {P : Program} {E : Env I}
theorem EnvOK.size (hE : EnvOK P E) {t : Nat} {ti : TI} (h : E.ty t = some ti) : (P.info? t).map (·.size) = some ti.size := by
  have := hE.info t ti h
  cases hq : P.info? t with
  | none => rw [hq] at this; cases this
  | some i => rw [hq] at this; simp at this ⊢; exact this.1
theorem EnvOK.desc (hE : EnvOK P E) {t : Nat} {ti : TI} (h : E.ty t = some ti) : ∃ d, P.underlying t = some d ∧ tdOf d = ti.td := by
  have := hE.und t ti h
  cases hq : P.underlying t with
  | none => rw [hq] at this; cases this
  | some d => rw [hq] at this; simp at this; exact ⟨d, rfl, this⟩
theorem EnvOK.isAgg (hE : EnvOK P E) {t : Nat} {ti : TI} (h : E.ty t = some ti) (w : World) : (isAgg t).run P w = .ok ti.agg w := by
  obtain ⟨d, hd, he⟩ := hE.desc h
  unfold Go.isAgg
  rw [Sem.run_bind, run_underlying hd w]
  cases d <;> simp [tdOf] at he <;> simp [TI.agg, ← he]
theorem EnvOK.sizeOf (hE : EnvOK P E) {t : Nat} {ti : TI} (h : E.ty t = some ti) (w : World) : (sizeOf t).run P w = .ok ti.size w := by
  have := hE.size h
  cases hq : P.info? t with
  | none => rw [hq] at this; cases this
  | some i => rw [hq] at this; simp at this; simp [Go.sizeOf, typeInfo, hq, this]
theorem EnvOK.zeroV (hE : EnvOK P E) {t : Nat} {ti : TI} (h : E.ty t = some ti) (w : World) : ∃ z, (zeroValue t).run P w = .ok z w ∧ z.cells.toList = ti.zero := by
  have := hE.info t ti h
  cases hq : P.info? t with
  | none => rw [hq] at this; cases this
  | some i =>
    rw [hq] at this; simp at this
    cases hz : i.zero with
    | none => rw [hz] at this; simp at this
    | some z => rw [hz] at this; simp at this; exact ⟨z, by simp [zeroValue, typeInfo, hq, hz], this.2.2⟩
theorem EnvOK.elem (hE : EnvOK P E) {t : Nat} {e : Nat} {ei : TI} (h : elemOf E t = some (e, ei)) : P.underlying t = some (.slice e) ∧ E.ty e = some ei := by
  unfold elemOf at h
  split at h
  · rename_i ti ht
    split at h
    · rename_i e' hd
      cases he : E.ty e' with
      | none => rw [he] at h; cases h
      | some q =>
        rw [he] at h; simp at h
        obtain ⟨rfl, rfl⟩ := h
        obtain ⟨d, h1, h2⟩ := hE.desc ht
        rw [hd] at h2
        cases d <;> simp [tdOf] at h2
        subst h2
        exact ⟨h1, he⟩
    · cases h
  · cases h
theorem EnvOK.field (hE : EnvOK P E) {t f off : Nat} {fi : TI} (h : fieldOf E t f = some (off, fi)) : ∃ fs fl, P.underlying t = some (.struct fs) ∧ fs[f]? = some fl ∧ fl.offset = off ∧ E.ty fl.type = some fi := by
  unfold fieldOf at h
  split at h
  · rename_i ti ht
    split at h
    · rename_i fs hd
      split at h
      · rename_i off' ft hf
        cases he : E.ty ft with
        | none => rw [he] at h; cases h
        | some q =>
          rw [he] at h; simp at h
          obtain ⟨rfl, rfl⟩ := h
          obtain ⟨d, h1, h2⟩ := hE.desc ht
          rw [hd] at h2
          cases d <;> simp [tdOf] at h2
          rename_i fs'
          subst h2
          simp [List.getElem?_map] at hf
          obtain ⟨fl, hfl, e1, e2⟩ := hf
          exact ⟨fs', fl, h1, by simpa using hfl, e1, by rw [e2]; exact he⟩
      · cases h
    · cases h
  · cases h
end
section
variable {E : Env I} {Sl : Nat → Nat → Prop} {w : World} {X : Nat → Prop} {B : Nat} {γ : Gam} {bx : Nat → Option (List (CV I))} {ob : Nat → Option (Obj I)} {fx : Nat → Option (I 1000003)}
theorem DRep.le {v : Value} {x y : DV I} (h : DRep E Sl w v x) (hl : DLe x y) : DRep E Sl w v y := by
  cases hl with
  | refl => exact h
  | nil t =>
    cases h
    exact .sl t [] none 0 0 0 0 (fun _ => undef) rfl (Nat.le_refl _) (by omega) (by omega) (by simp) (by simp)
theorem cv_rep (v : Value) (h : v.oneCell' = true) : CRep E Sl w X B γ bx ob fx v (cv v) := by
  unfold cv
  split
  · exact .d _ _ .nils
  · exact .d _ _ (.lit v h)
theorem av_rep (v : Value) : VRep E Sl w X B γ bx ob fx v (av v) := by
  unfold av
  split
  · rename_i cs
    split
    · rename_i hall
      refine .agg cs _ (by simp) fun i x hi => ?_
      simp [List.getElem?_map] at hi
      obtain ⟨v, hv, rfl⟩ := hi
      have : cs.getD i undef = v := by simp [Array.getD_eq_getD_getElem?, hv]
      rw [this]
      refine cv_rep v ?_
      rw [← oneB_eq]
      exact List.all_eq_true.1 hall v (by simpa using Array.mem_of_getElem? hv)
    · exact .any _
  · exact .any _
  · rename_i h1 h2
    refine .c _ _ (cv_rep _ ?_)
    cases v <;> first | rfl | exact absurd rfl (h1 _) | exact absurd rfl (h2 _)
theorem VRep.cells {v : Value} {x : AV I} {cs : List (CV I)} (h : VRep E Sl w X B γ bx ob fx v x) (hc : x.cells = some cs) : v.cells.size = cs.length ∧ ∀ j y, cs[j]? = some y → CRep E Sl w X B γ bx ob fx (v.cells.getD j undef) y := by
  cases h with
  | c v x h =>
    simp [AV.cells] at hc
    subst hc
    have h1 := h.one
    have hv : v.cells = #[v] := by cases v <;> first | rfl | (simp [Value.oneCell'] at h1)
    rw [hv]
    refine ⟨rfl, fun j y hj => ?_⟩
    cases j with
    | zero => simp at hj; subst hj; simpa using h
    | succ j => simp at hj
  | agg vs cs' hl h =>
    simp [AV.cells] at hc
    subst hc
    exact ⟨hl, h⟩
  | tup => simp [AV.cells] at hc
  | any => simp [AV.cells] at hc
theorem settle_rep {ob' : Nat → Option (Obj I)} (hob : ∀ o y, ob' o = some y → ob o = some y) {v : Value} {x : CV I} (hC : ∀ o y, ob o = some y → DRep E Sl w (γ.o o) (.sl y.t y.xs)) (h : CRep E Sl w X B γ bx ob fx v x) : DRep E Sl w v (settle ob' x) := by
  cases h with
  | d v x h => exact h
  | own v o ver y h hle h1 hv =>
    simp only [settle]
    split
    · rename_i y' hy
      have e := hob o y' hy
      rw [h] at e
      injection e with e
      subst e
      split
      · rename_i hb
        have := hv (Nat.eq_of_beq_eq_true hb)
        subst this
        exact hC o y h
      · exact .any v h1
    · exact .any v h1
  | ptr => exact .any _ rfl
  | rp => exact .any _ rfl
  | rq => exact .any _ rfl
  | clo => exact .any _ rfl
  | mth => exact .any _ rfl
  | fx r _ h1 => exact .any _ h1
end
end Go.Ev
end
section
namespace Go.Ev
open Go.RowKit
variable {I : Nat → Type}
def γ0 : Gam := ⟨fun _ => 0, fun _ => undef, fun _ => undef, fun _ => []⟩
structure Ext (Sl Sl' : Nat → Nat → Prop) (w w' : World) (fp : List Nat) : Prop where
  s : ∀ g o, Sl g o → Sl' g o
  n : ∀ g o, Sl' g o → Sl g o ∨ ((w.heap.size ≤ g ∨ g ∈ fp) ∧ g < w'.heap.size)
  c : ∀ g o u, Sl g o → w.cell? ⟨g, o, none⟩ = some u → w'.cell? ⟨g, o, none⟩ = some u
def Answers (E : Env I) (Sl : Nat → Nat → Prop) (w : World) (fp : List Nat) (rs : List Value) (rv : RV I) (u : Value) (w' : World) : Prop :=
  ∃ Sl' p1 p2 r1 r2, KeepX (· ∈ fp) w.heap.size w w' ∧ Ext Sl Sl' w w' fp ∧ ARep E Sl' w' (fun _ => True) 0 u rv.1 p1 r1 ∧ PReps E Sl' w' (fun _ => True) 0 rs rv.2 p2 r2 ∧ (p1 ++ p2).Nodup ∧ ∀ k ∈ p1 ++ p2, k < w'.heap.size ∧ (w.heap.size ≤ k ∨ k ∈ fp)
def Callee (f : Nat) (us : List Value) (g : Nat) (args : Array Value) : Prop :=
  (f ≠ 1000003 ∧ g = f ∧ args.toList = us) ∨ (f = 1000003 ∧ ∃ fs cs rest, us = .func (.func g) fs cs :: rest ∧ args.toList = fs.toList ++ rest ++ cs.toList)
def SpecOK (P : Program) (E : Env I) (sp : Nat → List (AV I) → Tree (RV I)) (f : Nat) : Prop := ∀ avs rv, (sp f avs).run = some rv → ∀ Sl w us fp rs, (∀ g o, Sl g o → g < w.heap.size) → AReps E Sl w (· ∈ fp) w.heap.size us avs fp rs → fp.Nodup → (∀ k ∈ fp, k < w.heap.size ∧ ¬ E.glob k) → E.inv w →
  ∃ g args, Callee f us g args ∧ (∃ fn, P.funcs[g]? = some fn ∧ fn.body.isSome = true ∧ (fn.name == "runtime.NumGoroutine") = false) ∧ Calls P g args w fun e w' => ∃ u, e = .returned u ∧ Answers E Sl w fp rs rv u w'
def Post (E : Env I) (X : Nat → Prop) (B : Nat) (w0 : World) (Sl0 : Nat → Nat → Prop) (Ex : Value → AV I → Prop) (s : AS I) (a : Act) (v : AV I) (u : Value) (w : World) : Prop :=
  ∃ γ Sl, Con E X B w0 Sl0 Ex γ Sl s a w ∧ VRep E Sl w X B γ s.boxes s.objs s.fxs u v
def Does (P : Program) (o : Oper) (a : Act) (w : World) (R : Value → World → Prop) : Prop := ∀ Q, o.wp P a w (fun a1 w1 => ∃ u, a1 = a.put o.dst u ∧ R u w1) Q
section
variable {P : Program} {o : Oper} {a : Act} {w w' : World} {R : Value → World → Prop} {u : Value}
theorem does_value (h : (execOp a.eval o).run P w = .ok (.value u) w') (hR : R u w') : Does P o a w R := fun Q => by
  unfold Oper.wp; rw [h, Oper.upon_value]; exact ⟨u, rfl, hR⟩
theorem does_skip (h : (execOp a.eval o).run P w = .ok .skip w') (hR : R undef w') : Does P o a w R := fun Q => by
  unfold Oper.wp; rw [h, Oper.upon_skip]; exact ⟨undef, rfl, hR⟩
theorem does_enter {f : FuncId} {args : Array Value} (h : (execOp a.eval o).run P w = .ok (.enter f args) w') (hR : Calls P f args w' fun e w'' => ∃ u, e = .returned u ∧ R u w'') : Does P o a w R := fun Q => by
  unfold Oper.wp; rw [h, Oper.upon_enter]
  refine hR.mono fun e w'' he => ?_
  obtain ⟨u, rfl, hu⟩ := he
  exact ⟨u, rfl, hu⟩
end
section
variable {P : Program} {E : Env I} {sp : Nat → List (AV I) → Tree (RV I)} {X : Nat → Prop} {B : Nat} {w0 : World} {Sl0 : Nat → Nat → Prop} {Ex : Value → AV I → Prop} {γ : Gam} {Sl : Nat → Nat → Prop} {s : AS I} {a : Act} {w : World}
theorem cast?_eq {t u : Nat} {xs : List (I t)} {ys : List (I u)} (h : cast? t u xs = some ys) : ∃ e : t = u, e ▸ xs = ys := by
  unfold cast? at h
  split at h
  · rename_i e; injection h with h; exact ⟨e, h⟩
  · cases h
theorem own_sl (hE : EnvOK P E) {t : Nat} {xs : List (I t)} {v : Value} {vals : List Value} {ti : TI} (ht : E.ty t = some ti) (hown : w.ownsRow 0 t ti.size v xs.length vals)
    (hr : ∀ i r j y, xs[i]? = some r → (E.row t r)[j]? = some y → ∃ u, vals[i * ti.size + j]? = some u ∧ DRep E Sl w u y) (hk : ∀ k, v.ownBlock = some k → ∀ j, Sl k j ↔ j < xs.length * ti.size) : DRep E Sl w v (.sl t xs) := by
  rcases hown.2 with ⟨hv, hn⟩ | ⟨g, cap, cur, hv, _, hg, hnc, hcm, hcs, htake⟩
  · rw [hv]
    have : xs = [] := List.eq_nil_of_length_eq_zero hn
    rw [this]
    exact .sl _ [] none 0 0 0 0 (fun _ => undef) rfl (Nat.le_refl _) (by omega) (by omega) (by simp) (by simp)
  · rw [hv]
    have hcell := hown.cells (g := g) (by rw [hv]; rfl)
    have hkk := hk g (by rw [hv]; rfl)
    refine .sl _ xs _ _ cap g 0 (fun i => vals.getD i undef) rfl hnc ?_ (fun _ => rfl) (fun i r j c hi hj => ?_) (fun i r j c hi hj => ?_)
    · simp only [maxLen] at hcm; omega
    · have hl := hE.row _ _ r ht
      obtain ⟨u, hu, _⟩ := hr i r j c hi hj
      rw [hl]
      have h1 := hcell (i * ti.size + j) u hu
      have hadd : (⟨g, 0, none⟩ : Addr).add (i * ti.size + j) = ⟨g, 0 + (i * ti.size + j), none⟩ := Addr.add_mid g 0 _
      rw [hadd] at h1
      refine ⟨by rw [h1]; simp [List.getD_eq_getElem?_getD, hu], ?_⟩
      rw [Nat.zero_add, hkk, ← hown.1]
      rcases Nat.lt_or_ge (i * ti.size + j) vals.length with hlt | hge
      · exact hlt
      · simp [List.getElem?_eq_none hge] at hu
    · have hl := hE.row _ _ r ht
      obtain ⟨u, hu, hd⟩ := hr i r j c hi hj
      rw [hl]
      simpa [List.getD_eq_getElem?_getD, hu] using hd
theorem Con.objRep (hE : EnvOK P E) (h : Con E X B w0 Sl0 Ex γ Sl s a w) (o : Nat) (y : Obj I) (ho : s.objs o = some y) : DRep E Sl w (γ.o o) (.sl y.t y.xs) := by
  obtain ⟨vals, ti, ht, hown, hr, hk⟩ := h.ob o y ho
  exact own_sl hE ht hown hr hk
theorem elems_rep (hE : EnvOK P E) (h : Con E X B w0 Sl0 Ex γ Sl s a w) {ob : Nat → Option (Obj I)} (hob : ∀ o y, ob o = some y → s.objs o = some y) {e : Nat} {x : AV I} {xs : List (I e)} {v : Value}
    (hx : elems ob e x = some xs) (hv : VRep E Sl w X B γ s.boxes s.objs s.fxs v x) : DRep E Sl w v (.sl e xs) := by
  cases hv with
  | c v x hc =>
    simp only [elems] at hx
    have hd := settle_rep (ob' := ob) hob (h.objRep hE) hc
    split at hx
    · rename_i t ys hs
      obtain ⟨rfl, rfl⟩ := cast?_eq hx
      rw [hs] at hd; exact hd
    · rename_i hs
      injection hx with hx
      subst hx
      rw [hs] at hd
      exact hd.le (.nil e)
    · cases hx
  | _ => simp [elems] at hx
mutual
theorem argC_rep (hE : EnvOK P E) (h : Con E X B w0 Sl0 Ex γ Sl s a w) {bx : Nat → Option (List (CV I))} {ob : Nat → Option (Obj I)} (hbx : ∀ b cs, bx b = some cs → s.boxes b = some cs) (hob : ∀ o y, ob o = some y → s.objs o = some y) :
    ∀ (x : CV I) (v : Value), CRep E Sl w X B γ s.boxes s.objs s.fxs v x → PRep E Sl w (fun k => k ∈ ([] : List Nat)) w.heap.size v (argC bx ob x) [] []
  | .d x, v, hv => by cases hv with | d v x hd => exact .d v x hd
  | .own o ver, v, hv => .d _ _ (settle_rep (ob' := ob) hob (h.objRep hE) hv)
  | .ptr b off, v, hv => by
    cases hv with
    | ptr b off hb =>
      simp only [argC]
      split
      · rename_i cs hcs
        obtain ⟨vs, e, c1, c2, c3, c5⟩ := h.bx b cs (hbx b cs hcs)
        have : (Value.pointer (some ⟨γ.b b, off, none⟩)) = .pointer (some ⟨γ.b b, 0 + off, none⟩) := by rw [Nat.zero_add]
        rw [this]
        refine .rp _ off (γ.b b) 0 fun j y hj => ?_
        simp [List.getElem?_map] at hj
        obtain ⟨c, hc, rfl⟩ := hj
        have hlt : j < vs.size := by rw [c2]; exact (List.getElem?_eq_some_iff.1 hc).1
        refine ⟨vs[j], ?_, ?_, .inl ⟨(Array.getElem?_eq_some_iff.1 c1).1, by simp⟩⟩
        · rw [Nat.zero_add, cell_of c1]; simp [hlt]
        · have := settle_rep (ob' := ob) hob (h.objRep hE) (c3 j c hc)
          simpa [Array.getD_eq_getD_getElem?, hlt] using this
      · exact .d _ _ (.any _ rfl)
  | .rp cs off, v, hv => by
    cases hv with
    | rp cs off g o hc =>
      refine .rp cs off g o fun j y hj => ?_
      obtain ⟨u, h1, h2, _⟩ := hc j y hj
      exact ⟨u, h1, h2, .inl ⟨cell_block h1, by simp⟩⟩
  | .clo f first caps, v, hv => by
    cases hv with
    | clo f fs cs first caps hf hc h1 h2 =>
      have r1 := argCs_rep hE h hbx hob first fs.toList (by simpa using hf) (fun i x hi => by simpa [Array.getD_eq_getD_getElem?, List.getD_eq_getElem?_getD] using h1 i x hi)
      have r2 := argCs_rep hE h hbx hob caps cs.toList (by simpa using hc) (fun i x hi => by simpa [Array.getD_eq_getD_getElem?, List.getD_eq_getElem?_getD] using h2 i x hi)
      exact .clo f fs cs _ _ [] [] [] [] r1 r2
  | .mth f m, v, hv => by
    cases hv with
    | mth f vs m hl h1 => exact .mth f vs _ [] [] (argCs_rep hE h hbx hob m vs.toList (by simpa using hl) (fun i x hi => by simpa [Array.getD_eq_getD_getElem?, List.getD_eq_getElem?_getD] using h1 i x hi))
  | .fx r, v, hv => by cases hv with | fx r h h1 => exact .d _ _ (.any _ h1)
  | .rq cs off, v, hv => by cases hv with | rq => exact .d _ _ (.any _ rfl)
  | .ow t xs, v, hv => by cases hv
  | .io cs off, v, hv => by cases hv
  | .fd x, v, hv => by cases hv
theorem argCs_rep (hE : EnvOK P E) (h : Con E X B w0 Sl0 Ex γ Sl s a w) {bx : Nat → Option (List (CV I))} {ob : Nat → Option (Obj I)} (hbx : ∀ b cs, bx b = some cs → s.boxes b = some cs) (hob : ∀ o y, ob o = some y → s.objs o = some y) :
    ∀ (xs : List (CV I)) (us : List Value), us.length = xs.length → (∀ i x, xs[i]? = some x → CRep E Sl w X B γ s.boxes s.objs s.fxs (us.getD i undef) x) →
      PReps E Sl w (fun k => k ∈ ([] : List Nat)) w.heap.size us (argCs bx ob xs) [] []
  | [], us, hl, _ => by
    have : us = [] := List.eq_nil_of_length_eq_zero (by simpa using hl)
    subst this
    exact .nil
  | x :: xs, us, hl, hf => by
    cases us with
    | nil => simp at hl
    | cons u us =>
      have r := argCs_rep hE h hbx hob xs us (by simpa using hl) (fun i y hi => by simpa using hf (i + 1) y (by simpa using hi))
      have r0 := argC_rep hE h hbx hob x u (by simpa using hf 0 x (by simp))
      exact .cons u us _ _ [] [] [] [] r0 r
end
theorem argA_rep (hE : EnvOK P E) (h : Con E X B w0 Sl0 Ex γ Sl s a w) {bx : Nat → Option (List (CV I))} {ob : Nat → Option (Obj I)} (hbx : ∀ b cs, bx b = some cs → s.boxes b = some cs) (hob : ∀ o y, ob o = some y → s.objs o = some y)
    {x : AV I} {v : Value} (hv : VRep E Sl w X B γ s.boxes s.objs s.fxs v x) : ARep E Sl w (fun k => k ∈ ([] : List Nat)) w.heap.size v (argA bx ob x) [] [] := by
  cases hv with
  | c v x hc => exact .c _ _ _ _ (argC_rep hE h hbx hob x v hc)
  | agg vs cs hl hc => exact .agg vs _ _ _ (argCs_rep hE h hbx hob cs vs.toList (by simpa using hl) (fun i x hi => by simpa [Array.getD_eq_getD_getElem?, List.getD_eq_getElem?_getD] using hc i x hi))
  | tup => exact .any _
  | any => exact .any _
end
end Go.Ev
end
section
namespace Go.Ev
open Go.RowKit
variable {I : Nat → Type}
theorem add_at (g o n : Nat) : (⟨g, o, none⟩ : Addr).add n = ⟨g, o + n, none⟩ := Addr.add_mid g o n
section
variable {P : Program} {E : Env I} {sp : Nat → List (AV I) → Tree (RV I)} {X : Nat → Prop} {B : Nat} {w0 : World} {Sl0 : Nat → Nat → Prop} {Ex : Value → AV I → Prop} {γ : Gam} {Sl : Nat → Nat → Prop} {s : AS I} {a : Act} {w : World} {bx : Nat → Option (List (CV I))} {ob : Nat → Option (Obj I)} {fx : Nat → Option (I 1000003)}
theorem Con.post (h : Con E X B w0 Sl0 Ex γ Sl s a w) {v : AV I} {u : Value} (hv : VRep E Sl w X B γ s.boxes s.objs s.fxs u v) : Post E X B w0 Sl0 Ex s a v u w := ⟨γ, Sl, h, hv⟩
theorem load_ok (hE : EnvOK P E) {t : Nat} {ti : TI} (ht : E.ty t = some ti) {cs : List (CV I)} {g o off : Nat}
    (hc : ∀ j y, cs[j]? = some y → ∃ u, w.cell? ⟨g, o + j, none⟩ = some u ∧ CRep E Sl w X B γ s.boxes s.objs s.fxs u y) {v : AV I} (hr : (rdC cs ti off).run = some v) :
    ∃ u, (Instr.loadAt t (.pointer (some ⟨g, o + off, none⟩))).run P w = .ok u w ∧ VRep E Sl w X B γ s.boxes s.objs s.fxs u v := by
  obtain ⟨d, hd, hdt⟩ := hE.desc ht
  have hsz := hE.size ht
  unfold rdC at hr
  cases hag : ti.agg with
  | true =>
    simp only [hag] at hr
    cases hb : Nat.ble (off + ti.size) cs.length with
    | false => simp [hb, Tree.run] at hr
    | true =>
      have hle : off + ti.size ≤ cs.length := Nat.le_of_ble_eq_true hb
      simp [hb, Tree.run] at hr
      subst hr
      let f : Nat → Value := fun j => (w.cell? ⟨g, o + off + j, none⟩).getD undef
      have hf : ∀ j y, (List.take ti.size (List.drop off cs))[j]? = some y → w.cell? ⟨g, o + off + j, none⟩ = some (f j) ∧ CRep E Sl w X B γ s.boxes s.objs s.fxs (f j) y := by
        intro j y hj
        rw [List.getElem?_take] at hj
        split at hj
        · rw [List.getElem?_drop] at hj
          obtain ⟨u, h1, h2⟩ := hc (off + j) y hj
          rw [← Nat.add_assoc] at h1
          have : f j = u := by simp [f, h1]
          rw [this]
          exact ⟨h1, h2⟩
        · cases hj
      have hlen : ((List.range ti.size).map f).length = ti.size := by simp
      have hrow : d.isRow = true := by
        cases d <;> simp [tdOf] at hdt <;> simp [TI.agg, ← hdt] at hag <;> rfl
      have hcells : w.rangeAt g (o + off) ((List.range ti.size).map f) := by
        intro j u hu
        have hj : j < ti.size := by
          have := (List.getElem?_eq_some_iff.1 hu).1
          simpa using this
        simp [List.getElem?_map, List.getElem?_range hj] at hu
        subst hu
        have hlt : j < (List.take ti.size (List.drop off cs)).length := by simp; omega
        exact (hf j _ (List.getElem?_eq_getElem hlt)).1
      refine ⟨_, run_loadAt_mid w g (o + off) t _ d hcells hd hrow (by rw [hsz, hlen]), .agg _ _ (by simp; omega) fun j y hj => ?_⟩
      have hlt : j < ti.size := by
        have := (List.getElem?_eq_some_iff.1 hj).1
        simp at this; omega
      have := (hf j y hj).2
      simpa [Array.getD_eq_getD_getElem?, List.getElem?_map, List.getElem?_range hlt] using this
  | false =>
    simp only [hag] at hr
    cases hx : cs[off]? with
    | none => simp [hx, Tree.run] at hr
    | some x =>
      simp [hx, Tree.run] at hr
      subst hr
      obtain ⟨u, h1, h2⟩ := hc off x hx
      refine ⟨u, ?_, .c _ _ h2⟩
      simp only [Instr.loadAt, Instr.sureAddr, Sem.run_bind, Sem.run_pure, Result.andThen_ok, loadVar, hE.isAgg ht w, hag, Bool.false_eq_true, if_false]
      rw [run_load, h1]
theorem Con.cells (h : Con E X B w0 Sl0 Ex γ Sl s a w) {b : Nat} {cs : List (CV I)} (hb : s.boxes b = some cs) : ∀ j y, cs[j]? = some y → ∃ u, w.cell? ⟨γ.b b, 0 + j, none⟩ = some u ∧ CRep E Sl w X B γ s.boxes s.objs s.fxs u y := by
  intro j y hj
  obtain ⟨vs, e, c1, c2, c3, _⟩ := h.bx b cs hb
  have hlt : j < vs.size := by rw [c2]; exact (List.getElem?_eq_some_iff.1 hj).1
  refine ⟨vs[j], by rw [Nat.zero_add, cell_of c1]; simp [hlt], ?_⟩
  have := c3 j y hj
  simpa [Array.getD_eq_getD_getElem?, hlt] using this
theorem rp_cells {v : Value} {cs : List (DV I)} {off : Nat} (hv : CRep E Sl w X B γ s.boxes s.objs s.fxs v (.rp cs off)) : ∃ g o, v = .pointer (some ⟨g, o + off, none⟩) ∧ ∀ j y, (cs.map CV.d)[j]? = some y → ∃ u, w.cell? ⟨g, o + j, none⟩ = some u ∧ CRep E Sl w X B γ s.boxes s.objs s.fxs u y := by
  cases hv with
  | rp cs off g o hc =>
    refine ⟨g, o, rfl, fun j y hj => ?_⟩
    simp [List.getElem?_map] at hj
    obtain ⟨c, h1, rfl⟩ := hj
    obtain ⟨u, h2, h3, _⟩ := hc j c h1
    exact ⟨u, h2, .d _ _ h3⟩
theorem VRep.ofC {v : Value} {x : CV I} (h : VRep E Sl w X B γ s.boxes s.objs s.fxs v (.c x)) : CRep E Sl w X B γ s.boxes s.objs s.fxs v x := by cases h with | c _ _ h => exact h
theorem VRep.ofLit {v u : Value} (h : VRep E Sl w X B γ s.boxes s.objs s.fxs v (.c (.d (.lit u)))) : v = u := by
  cases h with | c _ _ h => cases h with | d _ _ h => cases h with | lit _ h => rfl
theorem VRep.lit {u : Value} (h : u.oneCell' = true) : VRep E Sl w X B γ s.boxes s.objs s.fxs u (.c (.d (.lit u))) := .c _ _ (.d _ _ (.lit _ h))
theorem part_ok (hE : EnvOK P E) {t : Nat} {ti : TI} (ht : E.ty t = some ti) {cs : List (CV I)} {vs : Array Value} (hl : vs.size = cs.length) (hc : ∀ j y, cs[j]? = some y → CRep E Sl w X B γ s.boxes s.objs s.fxs (vs.getD j undef) y) {off : Nat}
    {v : AV I} (hr : (rdC cs ti off).run = some v) : ∃ u, (part t vs off).run P w = .ok u w ∧ VRep E Sl w X B γ s.boxes s.objs s.fxs u v := by
  unfold rdC at hr
  unfold part
  rw [Sem.run_bind, hE.isAgg ht w, Result.andThen_ok]
  cases hag : ti.agg with
  | true =>
    simp only [hag] at hr
    cases hb : Nat.ble (off + ti.size) cs.length with
    | false => simp [hb, Tree.run] at hr
    | true =>
      have hle : off + ti.size ≤ cs.length := Nat.le_of_ble_eq_true hb
      simp [hb, Tree.run] at hr
      subst hr
      simp only [if_true, Sem.run_bind, hE.sizeOf ht w, Result.andThen_ok, Sem.run_pure]
      refine ⟨_, rfl, .agg _ _ (by simp; omega) fun j y hj => ?_⟩
      rw [List.getElem?_take] at hj
      split at hj
      · rename_i hlt
        rw [List.getElem?_drop] at hj
        have := hc (off + j) y hj
        have h2 : off + j < vs.size := by rw [hl]; exact (List.getElem?_eq_some_iff.1 hj).1
        have h3 : j < (vs.extract off (off + ti.size)).size := by simp; omega
        simp [Array.getD_eq_getD_getElem?, h2] at this
        have h4 : (vs.extract off (off + ti.size))[j]? = some vs[off + j] := by rw [Array.getElem?_eq_getElem h3, Array.getElem_extract]
        rw [Array.getD_eq_getD_getElem?, h4]
        exact this
      · cases hj
  | false =>
    simp only [hag] at hr
    cases hx : cs[off]? with
    | none => simp [hx, Tree.run] at hr
    | some x =>
      simp [hx, Tree.run] at hr
      subst hr
      have hlt : off < vs.size := by rw [hl]; exact (List.getElem?_eq_some_iff.1 hx).1
      have := hc off x hx
      simp [Array.getD_eq_getD_getElem?, hlt] at this
      refine ⟨vs[off], ?_, .c _ _ this⟩
      simp [hlt]
theorem Con.made (h : Con E X B w0 Sl0 Ex γ Sl s a w) {nm : Nat} {cs : List (CV I)} {vs : Array Value} {e : TypeId} (hn : s.boxes nm = none) (hl : vs.size = cs.length)
    (hc : ∀ j y, cs[j]? = some y → CRep E Sl w X B γ s.boxes s.objs s.fxs (vs.getD j undef) y) :
    Post E X B w0 Sl0 Ex (applyM [.box nm cs] s) a (.c (.ptr nm 0)) (.pointer (some ⟨w.heap.size, 0, none⟩)) (w.alloc (.cells vs e)) := by
  have h1 : Con E X B w0 Sl0 Ex γ Sl s a (w.alloc (.cells vs e)) := h.on (w' := w.alloc (.cells vs e)) rfl rfl rfl (by simp) (fun k hk => heap_alloc_old w _ k hk) (fun _ _ h => h) (fun _ _ h => .inl h)
  have m : Moves Sl Sl w (w.alloc (.cells vs e)) X B γ γ s.boxes s.boxes s.objs s.objs s.fxs s.fxs :=
    ⟨fun _ _ h => h, fun g o u _ hu => (cell_same (heap_alloc_old w _ g (cell_block hu))).trans hu, fun b hb => ⟨hb, rfl⟩, fun o x hx => ⟨x, hx, Nat.le_refl _, fun _ => rfl⟩, fun r hr => ⟨hr, rfl⟩⟩
  have h2 := h1.box (nm := nm) (g := w.heap.size) (cs := cs) (vs := vs) (e := e) hn (heap_alloc_new w _) hl (fun j y hj => (hc j y hj).move m) (.inl h.hB) (fun j hs => by have := h.sh _ _ hs; omega)
    (fun K hK hk => by have := h.fp_lt hK hk; omega)
  refine ⟨_, _, h2.1, ?_⟩
  have : (Value.pointer (some ⟨w.heap.size, 0, none⟩)) = .pointer (some ⟨(γ.setB nm w.heap.size).b nm, 0, none⟩) := by simp [Gam.setB]
  rw [this]
  exact .c _ _ (.ptr nm 0 (by simp [applyM, upd_same]))
end
end Go.Ev
end
section
namespace Go.Ev
open Go.RowKit
variable {I : Nat → Type}
section
variable {P : Program} {E : Env I} {sp : Nat → List (AV I) → Tree (RV I)} {X : Nat → Prop} {B : Nat} {w0 : World} {Sl0 : Nat → Nat → Prop} {Ex : Value → AV I → Prop} {γ : Gam} {Sl : Nat → Nat → Prop} {s : AS I} {a : Act} {w : World} {bx : Nat → Option (List (CV I))} {ob : Nat → Option (Obj I)} {fx : Nat → Option (I 1000003)}
theorem Tree.run_ite {α : Type} {c : Prop} {d : Decidable c} {t e : Tree α} {r : α} (h : (Tree.ite c d t e).run = some r) : (c ∧ t.run = some r) ∨ (¬ c ∧ e.run = some r) := by
  simp only [Tree.run] at h
  split at h
  · rename_i hc; exact .inl ⟨hc, h⟩
  · rename_i hc; exact .inr ⟨hc, h⟩
theorem Tree.run_fail {α : Type} {r : α} (h : (Tree.fail : Tree α).run = some r) : False := by cases h
theorem Tree.run_ret {α : Type} {x r : α} (h : (Tree.ret x).run = some r) : x = r := by injection h
theorem Tree.run_pure {α β : Type} {t : Tree α} {f : α → β} {r : β} (h : (t.bind fun x => .ret (f x)).run = some r) : ∃ x, t.run = some x ∧ f x = r := by
  rw [Tree.run_bind] at h
  cases ht : t.run with
  | none => rw [ht] at h; cases h
  | some x => rw [ht] at h; exact ⟨x, rfl, Tree.run_ret h⟩
theorem eqGuard_lit {op : BinOp} {t : TypeId} {x y : Operand} {u v : Value} (h : u.oneCell' = true) (h' : u ≠ .nilIface) : (eqGuard op t x y u v).run P w = .ok () w := by
  cases op <;> first | rfl | (cases u <;> first | rfl | exact absurd rfl h' | cases h)
theorem bin_ok {op : BinOp} {t : TypeId} {ox oy : Operand} {x y v : AV I} {u1 u2 : Value} (h1 : VRep E Sl w X B γ s.boxes s.objs s.fxs u1 x) (h2 : VRep E Sl w X B γ s.boxes s.objs s.fxs u2 y) (hr : (bin op x y).run = some v) :
    ∃ u, (do eqGuard op t ox oy u1 u2; binOp op t u1 u2 : Sem Value).run P w = .ok u w ∧ VRep E Sl w X B γ s.boxes s.objs s.fxs u v := by
  unfold bin at hr
  split at hr
  · rename_i k p k' q
    have e1 := h1.ofLit; have e2 := h2.ofLit; subst e1; subst e2
    split at hr
    · rename_i hk; subst hk
      split at hr
      · rename_i z hz
        have := Tree.run_ret hr; subst this
        have hz1 : z.oneCell' = true := by cases op <;> simp [intOp] at hz <;> first | (subst hz; rfl) | (obtain ⟨_, rfl⟩ := hz; rfl)
        refine ⟨z, ?_, VRep.lit hz1⟩
        rw [Sem.run_bind, eqGuard_lit rfl (by intro h; cases h), Result.andThen_ok]
        cases op <;> simp [intOp] at hz <;> first | (subst hz; simp [binOp, Op.intArith, Op.intCmp]; done) | (obtain ⟨h0, rfl⟩ := hz; simp [binOp, Op.intDiv, h0])
      · exact (Tree.run_fail hr).elim
    · exact (Tree.run_fail hr).elim
  · rename_i p q
    have e1 := h1.ofLit; have e2 := h2.ofLit; subst e1; subst e2
    split at hr
    · rcases Tree.run_ite hr with ⟨_, h⟩ | ⟨hn, h⟩
      · exact (Tree.run_fail h).elim
      · have := Tree.run_ret h; subst this
        refine ⟨_, ?_, VRep.lit rfl⟩
        rw [Sem.run_bind, eqGuard_lit rfl (by intro h; cases h), Result.andThen_ok]
        simp only [binOp, Op.stringOp]
        rw [if_neg hn]; rfl
    · have := Tree.run_ret hr; subst this
      refine ⟨_, ?_, VRep.lit rfl⟩
      rw [Sem.run_bind, eqGuard_lit rfl (by intro h; cases h), Result.andThen_ok]
      rfl
    · have := Tree.run_ret hr; subst this
      refine ⟨_, ?_, VRep.lit rfl⟩
      rw [Sem.run_bind, eqGuard_lit rfl (by intro h; cases h), Result.andThen_ok]
      rfl
    · exact (Tree.run_fail hr).elim
  · exact (Tree.run_fail hr).elim
theorem eqFs_ok (hE : EnvOK P E) {d : Nat} {eq : Nat → AV I → AV I → Option Bool} {xs ys : List (CV I)} {us vs : Array Value} (hxl : us.size = xs.length) (hx : ∀ j y, xs[j]? = some y → CRep E Sl w X B γ s.boxes s.objs s.fxs (us.getD j undef) y)
    (hyl : vs.size = ys.length) (hy : ∀ j y, ys[j]? = some y → CRep E Sl w X B γ s.boxes s.objs s.fxs (vs.getD j undef) y)
    (heq : ∀ t x y r u v, eq t x y = some r → VRep E Sl w X B γ s.boxes s.objs s.fxs u x → VRep E Sl w X B γ s.boxes s.objs s.fxs v y → (Op.equalIn d t u v).run P w = .ok r w) :
    ∀ (fs : List Field) (r : Bool), (∀ f ∈ fs, f.name ≠ "_") → eqFs E eq xs ys (fs.map fun f => (f.offset, f.type)) = some r → (Op.eqFields d us vs fs).run P w = .ok r w
  | [], r, _, h => by simp [eqFs] at h; subst h; rfl
  | f :: fs, r, hn, h => by
    simp only [List.map_cons, eqFs] at h
    split at h
    · rename_i fi hfi
      split at h
      · rename_i x y hx' hy'
        split at h
        · rename_i p q hp hq
          injection h with h
          obtain ⟨u, hu, hur⟩ := part_ok hE hfi hxl hx hx'
          obtain ⟨v, hv, hvr⟩ := part_ok hE hfi hyl hy hy'
          have he := heq f.type x y p u v hp hur hvr
          have ih := eqFs_ok hE hxl hx hyl hy heq fs q (fun f hf => hn f (List.mem_cons_of_mem _ hf)) hq
          have hf := hn f List.mem_cons_self
          simp only [Op.eqFields, ne_eq, hf, not_false_eq_true, if_true, Sem.run_bind, hu, Result.andThen_ok, hv, he, Sem.run_ite]
          cases p
          · simp at h; subst h; simp
          · simp at h; subst h; simpa using ih
        · cases h
      · cases h
    · cases h
theorem eqT_ok (hE : EnvOK P E) : ∀ (n d t : Nat) (x y : AV I) (r : Bool) (u v : Value), n ≤ d → eqT E n t x y = some r → VRep E Sl w X B γ s.boxes s.objs s.fxs u x → VRep E Sl w X B γ s.boxes s.objs s.fxs v y → (Op.equalIn d t u v).run P w = .ok r w
  | 0, _, _, _, _, _, _, _, _, h, _, _ => by simp [eqT] at h
  | n + 1, 0, _, _, _, _, _, _, hd, _, _, _ => by omega
  | n + 1, d + 1, t, x, y, r, u, v, hd, h, hu, hv => by
    simp only [eqT] at h
    split at h
    · rename_i ti ht
      obtain ⟨D, hD, hDt⟩ := hE.desc ht
      split at h
      · rename_i ki k p k' q htd
        split at h
        · rename_i hk; subst hk
          injection h with h; subst h
          have e1 := hu.ofLit; have e2 := hv.ofLit; subst e1; subst e2
          rw [htd] at hDt
          cases D <;> simp [tdOf] at hDt
          exact run_equalIn_int w d t k _ p q hD
        · cases h
      · rename_i p q htd
        injection h with h; subst h
        have e1 := hu.ofLit; have e2 := hv.ofLit; subst e1; subst e2
        rw [htd] at hDt
        cases D <;> simp [tdOf] at hDt
        exact run_equalIn_bool' w d t p q hD
      · rename_i p q htd
        injection h with h; subst h
        have e1 := hu.ofLit; have e2 := hv.ofLit; subst e1; subst e2
        rw [htd] at hDt
        cases D <;> simp [tdOf] at hDt
        exact run_equalIn_string w d t p q hD
      · rename_i fs xs ys htd
        split at h
        · rename_i hcmp
          obtain ⟨c1, c2, c3⟩ := hE.cmp t ti ht hcmp
          rw [htd] at hDt
          cases D <;> simp [tdOf] at hDt
          rename_i Fs
          subst hDt
          cases hu with
          | agg us _ hul hur =>
            cases hv with
            | agg vs _ hvl hvr =>
              have hf : P.fieldsOf t = Fs := by simp [Program.fieldsOf, hD]
              rw [run_equalIn_struct w d t us vs (by rw [hf]; exact hD) c1, hf]
              exact eqFs_ok hE hul hur hvl hvr (fun t x y r u v he hu hv => eqT_ok hE n d t x y r u v (by omega) he hu hv) Fs.toList r (c3 Fs hD) h
        · cases h
      · cases h
    · cases h
theorem eqGuard_agg (hE : EnvOK P E) {op : BinOp} {t : TypeId} {ti : TI} (ht : E.ty t = some ti) (hc : ti.cmp = true) {x y : Operand} {us vs : Array Value} : (eqGuard op t x y (.agg us) (.agg vs)).run P w = .ok () w := by
  have := (hE.cmp t ti ht hc).2.1
  cases op <;> first | rfl | simp [eqGuard, this]
theorem binT_ok (hE : EnvOK P E) {op : BinOp} {t : TypeId} {ox oy : Operand} {x y v : AV I} {u1 u2 : Value} (h1 : VRep E Sl w X B γ s.boxes s.objs s.fxs u1 x) (h2 : VRep E Sl w X B γ s.boxes s.objs s.fxs u2 y) (hr : (binT E op t x y).run = some v) :
    ∃ u, (do eqGuard op t ox oy u1 u2; binOp op t u1 u2 : Sem Value).run P w = .ok u w ∧ VRep E Sl w X B γ s.boxes s.objs s.fxs u v := by
  have fin : ∀ r, eqT E 9 t x y = some r → (Op.equal t u1 u2).run P w = .ok r w := fun r hr => eqT_ok hE 9 10000 t x y r u1 u2 (by omega) hr h1 h2
  unfold binT at hr
  split at hr
  · rename_i p q
    have e1 := h1.ofLit; have e2 := h2.ofLit; subst e1; subst e2
    split at hr
    · rename_i r he
      have := Tree.run_ret hr; subst this
      refine ⟨.bool r, ?_, VRep.lit rfl⟩
      rw [Sem.run_bind, eqGuard_lit rfl (by intro h; cases h), Result.andThen_ok]
      show (do pure (Value.bool (← Op.equal t _ _)) : Sem Value).run P w = _
      rw [Sem.run_bind, fin r he, Result.andThen_ok]; rfl
    · rename_i r he
      have := Tree.run_ret hr; subst this
      refine ⟨.bool !r, ?_, VRep.lit rfl⟩
      rw [Sem.run_bind, eqGuard_lit rfl (by intro h; cases h), Result.andThen_ok]
      show (do pure (Value.bool (!(← Op.equal t _ _))) : Sem Value).run P w = _
      rw [Sem.run_bind, fin r he, Result.andThen_ok]; rfl
    · exact (Tree.run_fail hr).elim
  · rename_i xs ys
    have hcmp : ∀ r, eqT E 9 t (.agg xs) (.agg ys) = some r → ∃ ti, E.ty t = some ti ∧ ti.cmp = true := by
      intro r he
      simp only [eqT] at he
      split at he
      · rename_i ti ht
        split at he <;> first | (cases he; done) | skip
        all_goals first | (rename_i e _; cases e; done) | skip
        all_goals (split at he <;> first | (rename_i hc; exact ⟨ti, ht, hc⟩) | cases he)
      · cases he
    cases h1 with
    | agg us _ hul hur =>
      cases h2 with
      | agg vs _ hvl hvr =>
        split at hr
        · rename_i r he
          have := Tree.run_ret hr; subst this
          obtain ⟨ti, ht, hc⟩ := hcmp r he
          refine ⟨.bool r, ?_, VRep.lit rfl⟩
          rw [Sem.run_bind, eqGuard_agg hE ht hc, Result.andThen_ok]
          show (do pure (Value.bool (← Op.equal t _ _)) : Sem Value).run P w = _
          rw [Sem.run_bind, fin r he, Result.andThen_ok]; rfl
        · rename_i r he
          have := Tree.run_ret hr; subst this
          obtain ⟨ti, ht, hc⟩ := hcmp r he
          refine ⟨.bool !r, ?_, VRep.lit rfl⟩
          rw [Sem.run_bind, eqGuard_agg hE ht hc, Result.andThen_ok]
          show (do pure (Value.bool (!(← Op.equal t _ _))) : Sem Value).run P w = _
          rw [Sem.run_bind, fin r he, Result.andThen_ok]; rfl
        · exact (Tree.run_fail hr).elim
  · exact bin_ok h1 h2 hr
theorem un_ok {op : UnOp} {x v : AV I} {u1 : Value} (h1 : VRep E Sl w X B γ s.boxes s.objs s.fxs u1 x) (hr : (un op x).run = some v) : ∃ u, (Op.unary op u1).run P w = .ok u w ∧ VRep E Sl w X B γ s.boxes s.objs s.fxs u v := by
  unfold un at hr
  split at hr
  · have e1 := h1.ofLit; subst e1
    have := Tree.run_ret hr; subst this
    exact ⟨_, rfl, VRep.lit rfl⟩
  · have e1 := h1.ofLit; subst e1
    have := Tree.run_ret hr; subst this
    exact ⟨_, rfl, VRep.lit rfl⟩
  · exact (Tree.run_fail hr).elim
theorem fieldAt_ok (hE : EnvOK P E) {t f off : Nat} {fi : TI} (hf : fieldOf E t f = some (off, fi)) (hz : fi.size ≠ 0) (g o : Nat) : (Instr.fieldAt t (.pointer (some ⟨g, o, none⟩)) f).run P w = .ok (.pointer (some ⟨g, o + off, none⟩)) w := by
  obtain ⟨fs, fl, h1, h2, h3, h4⟩ := hE.field hf
  simp only [Instr.fieldAt, Sem.run_bind, run_underlying h1 w, Result.andThen_ok, h2, Instr.sureAddr, Sem.run_pure, fieldPlace, hE.sizeOf h4 w, hz, if_false, add_at, h3]
theorem slen_ok (hE : EnvOK P E) (h : Con E X B w0 Sl0 Ex γ Sl s a w) (hob : ∀ o y, ob o = some y → s.objs o = some y) {x : AV I} {u : Value} {n : Int} {t ty : Nat} {ti : TI} (ht : E.ty t = some ti) (hv : VRep E Sl w X B γ s.boxes s.objs s.fxs u x) (hn : slen ob ti.td x = some n) :
    (Builtin.len_ #[t] ty #[u]).run P w = .ok (.int .i64 n) w := by
  obtain ⟨D, hD, hDt⟩ := hE.desc ht
  cases hv with
  | c v x hc =>
    simp only [slen] at hn
    have hd := settle_rep (ob' := ob) hob (h.objRep hE) hc
    split at hn
    · rename_i e t' xs htd hs
      rw [hs] at hd
      injection hn with hn
      rw [htd] at hDt
      cases D <;> simp [tdOf] at hDt
      cases hd with
      | sl t xs A n' c g o vs hn' => simp [Builtin.len_, run_underlying hD, goInt, ← hn, hn']
    · rename_i e htd hs
      rw [hs] at hd
      injection hn with hn
      rw [htd] at hDt
      cases D <;> simp [tdOf] at hDt
      cases hd
      simp [Builtin.len_, run_underlying hD, goInt, ← hn]
    · rename_i st htd hs
      rw [hs] at hd
      injection hn with hn
      rw [htd] at hDt
      cases D <;> simp [tdOf] at hDt
      cases hd
      simp [Builtin.len_, run_underlying hD, goInt, ← hn]
    · cases hn
  | _ => simp [slen] at hn
end
end Go.Ev
end
section
namespace Go.Ev
open Go.RowKit
variable {I : Nat → Type}
section
variable {P : Program} {E : Env I} {sp : Nat → List (AV I) → Tree (RV I)} {X : Nat → Prop} {B : Nat} {w0 : World} {Sl0 : Nat → Nat → Prop} {Ex : Value → AV I → Prop} {γ : Gam} {Sl : Nat → Nat → Prop} {s : AS I} {a : Act} {w w' : World} {bx : Nat → Option (List (CV I))} {ob : Nat → Option (Obj I)} {fx : Nat → Option (I 1000003)}
def LR (E : Env I) (Sl : Nat → Nat → Prop) (w : World) (X : Nat → Prop) (B : Nat) (γ : Gam) (s : AS I) (us : List Value) (cs : List (CV I)) : Prop :=
  us.length = cs.length ∧ ∀ (j : Nat) (y : CV I), cs[j]? = some y → ∃ u : Value, us[j]? = some u ∧ CRep E Sl w X B γ s.boxes s.objs s.fxs u y
theorem LR.of {vs : Array Value} {cs : List (CV I)} (hl : vs.size = cs.length) (h : ∀ j y, cs[j]? = some y → CRep E Sl w X B γ s.boxes s.objs s.fxs (vs.getD j undef) y) : LR E Sl w X B γ s vs.toList cs := by
  refine ⟨by simpa using hl, fun j y hj => ?_⟩
  have hlt : j < vs.size := by rw [hl]; exact (List.getElem?_eq_some_iff.1 hj).1
  have := h j y hj
  simp [Array.getD_eq_getD_getElem?, hlt] at this
  exact ⟨vs[j], by simp [hlt], this⟩
theorem LR.back {us : List Value} {cs : List (CV I)} (h : LR E Sl w X B γ s us cs) : us.toArray.size = cs.length ∧ ∀ j y, cs[j]? = some y → CRep E Sl w X B γ s.boxes s.objs s.fxs (us.toArray.getD j undef) y := by
  refine ⟨by simpa using h.1, fun j y hj => ?_⟩
  obtain ⟨u, h1, h2⟩ := h.2 j y hj
  have : us.toArray.getD j undef = u := by simp [Array.getD_eq_getD_getElem?, h1]
  rw [this]; exact h2
theorem LR.append {us vs : List Value} {cs ds : List (CV I)} (h : LR E Sl w X B γ s us cs) (k : LR E Sl w X B γ s vs ds) : LR E Sl w X B γ s (us ++ vs) (cs ++ ds) := by
  refine ⟨by simp [h.1, k.1], fun j y hj => ?_⟩
  rw [List.getElem?_append] at hj
  split at hj
  · rename_i hlt
    obtain ⟨u, h1, h2⟩ := h.2 j y hj
    exact ⟨u, by rw [List.getElem?_append_left (by rw [h.1]; exact hlt)]; exact h1, h2⟩
  · rename_i hge
    obtain ⟨u, h1, h2⟩ := k.2 _ y hj
    exact ⟨u, by rw [List.getElem?_append_right (by rw [h.1]; omega), h.1]; exact h1, h2⟩
theorem LR.take {us : List Value} {cs : List (CV I)} (h : LR E Sl w X B γ s us cs) (n : Nat) : LR E Sl w X B γ s (us.take n) (cs.take n) := by
  refine ⟨by simp [h.1], fun j y hj => ?_⟩
  rw [List.getElem?_take] at hj ⊢
  split at hj
  · rename_i hlt; rw [if_pos hlt]; exact h.2 j y hj
  · cases hj
theorem LR.drop {us : List Value} {cs : List (CV I)} (h : LR E Sl w X B γ s us cs) (n : Nat) : LR E Sl w X B γ s (us.drop n) (cs.drop n) := by
  refine ⟨by simp [h.1], fun j y hj => ?_⟩
  rw [List.getElem?_drop] at hj ⊢
  exact h.2 _ y hj
theorem LR.put {us vs : List Value} {cs ds : List (CV I)} (h : LR E Sl w X B γ s us cs) (k : LR E Sl w X B γ s vs ds) (off : Nat) : LR E Sl w X B γ s (us.take off ++ vs ++ us.drop (off + vs.length)) (putAt cs ds off) := by
  unfold putAt
  rw [k.1]
  exact ((h.take off).append k).append (h.drop _)
theorem Con.setBox (h : Con E X B w0 Sl0 Ex γ Sl s a w) {b : Nat} {cs ys : List (CV I)} {us : List Value} {old : Array Value} {e : TypeId} (hb : s.boxes b = some cs) (hg : w.heap[γ.b b]? = some (.cells old e (0, 0))) (hu : LR E Sl w X B γ s us ys) :
    Con E X B w0 Sl0 Ex γ Sl { s with boxes := upd s.boxes b (some ys) } a (w.setRow (γ.b b) us.toArray) := by
  obtain ⟨vs0, e0, c1, c2, c3, c5⟩ := h.bx b cs hb
  have c4 : B ≤ γ.b b ∨ X (γ.b b) := h.mine (.box b) _ (by show s.boxes b ≠ none; rw [hb]; simp) (by simp [Gam.fpK])
  have hne : ∀ g, (Sl g = Sl g) → (∃ j, Sl g j) → g ≠ γ.b b := fun g _ ⟨j, hs⟩ he => c5 j (he ▸ hs)
  have m : Moves Sl Sl w (w.setRow (γ.b b) us.toArray) X B γ γ s.boxes (upd s.boxes b (some ys)) s.objs s.objs s.fxs s.fxs := by
    refine ⟨fun _ _ h => h, fun g o u hs hu => ?_, fun b' hb' => ⟨?_, rfl⟩, fun o x hx => ⟨x, hx, Nat.le_refl _, fun _ => rfl⟩, fun r hr => ⟨hr, rfl⟩⟩
    · have : g ≠ γ.b b := by
        rcases hs with hs | ⟨h1, h2⟩
        · exact hne g rfl ⟨o, hs⟩
        · intro he
          rcases c4 with c4 | c4
          · omega
          · exact h2 (he ▸ c4)
      rw [cell_same (setRow_other w _ g _ this)]; exact hu
    · rw [upd_eq]; split
      · simp
      · exact hb'
  have ub : ∀ b', upd s.boxes b (some ys) b' ≠ none → s.boxes b' ≠ none := by
    intro b' h1
    rw [upd_eq] at h1
    split at h1
    · rename_i e; rw [e, hb]; simp
    · exact h1
  have uL : ∀ K, Live (upd s.boxes b (some ys)) s.objs s.fxs K → Live s.boxes s.objs s.fxs K := by
    intro K hK
    cases K with
    | box b' => exact ub b' hK
    | obj o => exact hK
    | fx r => exact hK
  refine ⟨h.df, fun t => (h.tm t).move m, fun v x hx => (h.ex v x hx).move m, fun b' cs' hb' => ?_, fun o x ho => ?_, fun r x hr => ?_, fun K k hK hk => h.mine K k (uL K hK) hk, fun K K' k h1 h2 => h.dj K K' k (uL K h1) (uL K' h2), h.s0, h.s1, fun g o hs => ?_, fun g o u hs hu => m.c g o u (.inl (h.s0 g o hs)) (h.sc g o u hs hu), ?_, ?_⟩
  · simp only [upd_eq] at hb'
    split at hb'
    · rename_i e; subst e
      injection hb' with hb'
      subst hb'
      obtain ⟨k1, k2⟩ := hu.back
      exact ⟨us.toArray, e0, setRow_heap w _ vs0 _ e0 _ c1, k1, fun j y hj => (k2 j y hj).move m, c5⟩
    · rename_i hne'
      obtain ⟨vs1, e1, d1, d2, d3, d5⟩ := h.bx b' cs' hb'
      have : γ.b b' ≠ γ.b b := fun he => hne' (h.bi b' b (by rw [hb']; simp) (by rw [hb]; simp) he)
      exact ⟨vs1, e1, by rw [setRow_other w _ _ _ this]; exact d1, d2, fun j y hj => (d3 j y hj).move m, d5⟩
  · obtain ⟨vals, ti, k0, k1, k2, k3⟩ := h.ob o x ho
    refine ⟨vals, ti, k0, ownsRow_block w _ _ _ _ _ _ _ k1 (fun k hk => ?_), fun i r j y hi hj => ?_, k3⟩
    · exact setRow_other w _ k _ (fun he => h.xo o b (by rw [ho]; simp) (by rw [hb]; simp) (he ▸ hk))
    · obtain ⟨u, hu, hd⟩ := k2 i r j y hi hj
      exact ⟨u, hu, hd.move m.S fun g o u hs => m.c g o u (.inl hs)⟩
  · obtain ⟨k1, k2, kn, k3⟩ := h.fx r x hr
    refine ⟨E.frame x Sl Sl w _ _ _ k1 (fun _ _ h => h) (fun g o u hs => m.c g o u (.inl hs)) fun k hk => setRow_other w _ k _ fun he => h.xf r b (by rw [hr]; simp) (by rw [hb]; simp) (he ▸ hk), k2, kn, fun k hk => ?_⟩
    have := k3 k hk
    simpa using this
  · simpa using h.sh g o hs
  · refine h.kp.of rfl rfl rfl (by simp) fun i hi hx => setRow_other w _ i _ fun he => ?_
    rcases c4 with c4 | c4
    · omega
    · exact hx (he ▸ c4)
  · simpa using h.hB
theorem store_ok (hE : EnvOK P E) (h : Con E X B w0 Sl0 Ex γ Sl s a w) {t : Nat} {ti : TI} (ht : E.ty t = some ti) {b off : Nat} {cs vs : List (CV I)} {x : AV I} {u : Value} (hb : s.boxes b = some cs) (hx : x.cells = some vs)
    (hu : VRep E Sl w X B γ s.boxes s.objs s.fxs u x) (hl : vs.length = ti.size) (hle : off + ti.size ≤ cs.length) :
    ∃ w', (Instr.storeAt t (.pointer (some ⟨γ.b b, off, none⟩)) u).run P w = .ok () w' ∧ Con E X B w0 Sl0 Ex γ Sl { s with boxes := upd s.boxes b (some (putAt cs vs off)) } a w' := by
  obtain ⟨old, e, c1, c2, c3, c5⟩ := h.bx b cs hb
  obtain ⟨k1, k2⟩ := hu.cells hx
  have hone : ∀ v ∈ u.cells.toList, v.oneCell' = true := by
    intro v hv
    obtain ⟨j, hj⟩ := List.mem_iff_getElem?.1 hv
    have hlt : j < vs.length := by
      have := (List.getElem?_eq_some_iff.1 hj).1
      simp at this; omega
    have := (k2 j _ (List.getElem?_eq_getElem hlt)).one
    simp at hj
    simpa [Array.getD_eq_getD_getElem?, hj] using this
  have hrun := run_storeCells_at (P := P) (γ.b b) off e u.cells.toList 0 old w c1 (by simp; omega) hone
  simp only [Nat.add_zero] at hrun
  refine ⟨_, ?_, h.setBox hb c1 ((LR.of c2 c3).put (LR.of k1 k2) off)⟩
  simp only [Instr.storeAt, Instr.sureAddr, Sem.run_bind, Sem.run_pure, Result.andThen_ok, storeVar, hE.sizeOf ht w]
  rw [if_neg (by omega)]
  exact hrun
theorem foldl_put (off : Nat) : ∀ (vs : List Value) (k : Nat) (cells : Array Value), off + k + vs.length ≤ cells.size →
    ((vs.zipIdx k).foldl (fun (cs : Array Value) (c : Value × Nat) => cs.setIfInBounds (off + c.2) c.1) cells).toList = cells.toList.take (off + k) ++ vs ++ cells.toList.drop (off + k + vs.length)
  | [], k, cells, _ => by simp
  | v :: r, k, cells, h => by
    simp only [List.length_cons] at h
    rw [List.zipIdx_cons, List.foldl_cons, foldl_put off r (k + 1) _ (by simp; omega)]
    have e := list_seg_step cells.toList (off + k) v r (by simp; omega)
    simpa [Array.toList_setIfInBounds, Nat.add_assoc, Nat.add_comm, Nat.add_left_comm] using e
theorem fill_step (cells : Array Value) (v : Value) (off : Nat) (h : off + v.cells.size ≤ cells.size) :
    (v.cells.zipIdx.foldl (fun (cs : Array Value) (x : Value × Nat) => match x with | (c, j) => cs.setIfInBounds (off + j) c) cells).toList = cells.toList.take off ++ v.cells.toList ++ cells.toList.drop (off + v.cells.size) := by
  have := foldl_put off v.cells.toList 0 cells (by simpa using h)
  rw [← Array.foldl_toList]
  simpa using this
end
end Go.Ev
end
section
namespace Go.Ev
open Go.RowKit
variable {I : Nat → Type}
section
variable {P : Program} {E : Env I} {sp : Nat → List (AV I) → Tree (RV I)} {X : Nat → Prop} {B : Nat} {w0 : World} {Sl0 : Nat → Nat → Prop} {Ex : Value → AV I → Prop} {γ : Gam} {Sl : Nat → Nat → Prop} {s : AS I} {a : Act} {w w' : World} {bx : Nat → Option (List (CV I))} {ob : Nat → Option (Obj I)} {fx : Nat → Option (I 1000003)}
def szOf (E : Env I) (t : Nat) : Nat := ((E.ty t).map (·.size)).getD 0
theorem mapM_places (hE : EnvOK P E) : ∀ (fs : List Field), (∀ f ∈ fs, (E.ty f.type).isSome = true) → (fs.mapM (fun f => do pure (f.offset, ← sizeOf f.type) : Field → Sem (Nat × Nat))).run P w = .ok (fs.map fun f => (f.offset, szOf E f.type)) w
  | [], _ => rfl
  | f :: fs, h => by
    have h1 := h f List.mem_cons_self
    cases ht : E.ty f.type with
    | none => rw [ht] at h1; cases h1
    | some ti =>
      have ih := mapM_places hE fs fun g hg => h g (List.mem_cons_of_mem _ hg)
      rw [List.mapM_cons, Sem.run_bind, Sem.run_bind, hE.sizeOf ht w, Result.andThen_ok, Sem.run_pure, Result.andThen_ok, Sem.run_bind, ih, Result.andThen_ok, Sem.run_pure]
      simp [szOf, ht]
theorem array_mapM (fs : Array Field) (f : Field → Sem (Nat × Nat)) (l : List (Nat × Nat)) (h : (fs.toList.mapM f).run P w = .ok l w) : (fs.mapM f).run P w = .ok l.toArray w := by
  have e : fs.mapM f = List.toArray <$> fs.toList.mapM f := Array.mapM_eq_mapM_toList
  rw [e, map_eq_pure_bind, Sem.run_bind, h, Result.andThen_ok, Sem.run_pure]
theorem fill_ok (hE : EnvOK P E) (fs : List (Nat × Nat)) (ev : Operand → Value) (ρ : Operand → AV I) (hρ : ∀ x, VRep E Sl w X B γ s.boxes s.objs s.fxs (ev x) (ρ x)) :
    ∀ (ps : List (Nat × Operand)) (cells : Array Value) (cs out : List (CV I)), LR E Sl w X B γ s cells.toList cs → parts E fs (ps.map fun (i, x) => (i, ρ x)) cs = some out →
      ∃ res : Array Value, Instr.fill (fun i => (fs[i]?).map fun p => (p.1, szOf E p.2)) cells (ps.map fun (i, x) => (i, ev x)) = some res ∧ LR E Sl w X B γ s res.toList out
  | [], cells, cs, out, h, hp => by simp [parts] at hp; subst hp; exact ⟨cells, rfl, h⟩
  | (i, x) :: ps, cells, cs, out, h, hp => by
    simp only [List.map_cons, parts] at hp
    split at hp
    · rename_i off ft hf
      split at hp
      · rename_i ti vs hti hvs
        split at hp
        · rename_i hc
          obtain ⟨k1, k2⟩ := (hρ x).cells hvs
          have hle : off + (ev x).cells.size ≤ cells.size := by
            have := h.1; simp at this; omega
          have hst := fill_step cells (ev x) off hle
          have hLR : LR E Sl w X B γ s ((ev x).cells.zipIdx.foldl (fun (cs : Array Value) (x : Value × Nat) => match x with | (c, j) => cs.setIfInBounds (off + j) c) cells).toList (putAt cs vs off) := by
            rw [hst]
            have := h.put (LR.of k1 k2) off
            simpa using this
          obtain ⟨res, h1, h2⟩ := fill_ok hE fs ev ρ hρ ps _ _ out hLR hp
          refine ⟨res, ?_, h2⟩
          simp only [List.map_cons, Instr.fill, hf, Option.map_some, szOf, hti, Option.getD_some]
          rw [if_neg (by simp only [ne_eq, Bool.or_eq_true, decide_eq_true_eq, not_or]; omega)]
          exact h1
        · cases hp
      · cases hp
    · cases hp
theorem zero_LR (hE : EnvOK P E) {t : Nat} {ti : TI} (ht : E.ty t = some ti) : LR E Sl w X B γ s ti.zero (ti.zero.map cv) := by
  refine ⟨by simp, fun j y hj => ?_⟩
  simp [List.getElem?_map] at hj
  obtain ⟨z, hz, rfl⟩ := hj
  exact ⟨z, hz, cv_rep z (by rw [← oneB_eq]; exact (hE.zero t ti ht).2 z (List.mem_of_getElem? hz))⟩
theorem build_ok (hE : EnvOK P E) {t : Nat} {ti : TI} (ht : E.ty t = some ti) {fs : List (Nat × Nat)} (hfs : ti.td = .struct fs) (hall : (fs.all fun p => (E.ty p.2).isSome) = true) {ps : Array (Nat × Operand)} {ev : Operand → Value} {ρ : Operand → AV I}
    (hρ : ∀ x, VRep E Sl w X B γ s.boxes s.objs s.fxs (ev x) (ρ x)) {cs : List (CV I)} (hp : parts E fs (ps.toList.map fun (i, x) => (i, ρ x)) (ti.zero.map cv) = some cs) :
    ∃ u, (Instr.build t (ps.map fun (i, x) => (i, ev x))).run P w = .ok u w ∧ VRep E Sl w X B γ s.boxes s.objs s.fxs u (.agg cs) := by
  obtain ⟨z, hz, hzc⟩ := hE.zeroV ht w
  obtain ⟨D, hD, hDt⟩ := hE.desc ht
  rw [hfs] at hDt
  cases D <;> simp [tdOf] at hDt
  rename_i Fs
  have hsome : ∀ f ∈ Fs.toList, (E.ty f.type).isSome = true := by
    intro f hf
    have := List.all_eq_true.1 hall (f.offset, f.type) (by rw [← hDt]; exact List.mem_map.2 ⟨f, hf, rfl⟩)
    simpa using this
  have hm := array_mapM (P := P) (w := w) Fs _ _ (mapM_places hE Fs.toList hsome)
  obtain ⟨res, h1, h2⟩ := fill_ok (X := X) (B := B) (γ := γ) (Sl := Sl) (s := s) (w := w) hE fs ev ρ hρ ps.toList z.cells _ cs (by rw [hzc]; exact zero_LR hE ht) hp
  obtain ⟨k1, k2⟩ := h2.back
  refine ⟨.agg res, ?_, .agg _ _ (by simpa using k1) (by simpa using k2)⟩
  have hpl : (fun i : Nat => ((Fs.toList.map fun f => (f.offset, szOf E f.type)).toArray)[i]?) = fun i : Nat => (fs[i]?).map fun p : Nat × Nat => (p.1, szOf E p.2) := by
    funext i
    rw [← hDt]
    simp [List.getElem?_map, Option.map_map, Function.comp_def]
  simp only [Instr.build, Sem.run_bind, hz, Result.andThen_ok, run_underlying hD w, hm, Array.toList_map]
  rw [hpl, h1]
  rfl
end
end Go.Ev
end
section
namespace Go.Ev
open Go.RowKit
variable {I : Nat → Type}
section
variable {P : Program} {E : Env I} {sp : Nat → List (AV I) → Tree (RV I)} {X : Nat → Prop} {B : Nat} {w0 : World} {Sl0 : Nat → Nat → Prop} {Ex : Value → AV I → Prop} {γ : Gam} {Sl Sl' : Nat → Nat → Prop} {s : AS I} {a : Act} {w w' : World} {bx : Nat → Option (List (CV I))} {ob : Nat → Option (Obj I)} {fx : Nat → Option (I 1000003)}
def RowsR (E : Env I) (Sl : Nat → Nat → Prop) (w : World) (t size : Nat) (xs : List (I t)) (vals : List Value) : Prop :=
  vals.length = xs.length * size ∧ ∀ (i : Nat) (r : I t) (j : Nat) (y : DV I), xs[i]? = some r → (E.row t r)[j]? = some y → ∃ u : Value, vals[i * size + j]? = some u ∧ DRep E Sl w u y
theorem RowsR.nil (t size : Nat) : RowsR E Sl w t size [] [] := ⟨by simp, by simp⟩
theorem RowsR.cons {t size : Nat} {xs : List (I t)} {vals c : List Value} {r : I t} (hl : c.length = size) (hrl : (E.row t r).length = size) (hc : ∀ (j : Nat) (y : DV I), (E.row t r)[j]? = some y → ∃ u : Value, c[j]? = some u ∧ DRep E Sl w u y) (h : RowsR E Sl w t size xs vals) :
    RowsR E Sl w t size (r :: xs) (c ++ vals) := by
  refine ⟨by simp [hl, h.1, Nat.succ_mul, Nat.add_comm], fun i q j y hi hj => ?_⟩
  cases i with
  | zero =>
    simp at hi; subst hi
    have hlt : j < size := by rw [← hrl]; exact (List.getElem?_eq_some_iff.1 hj).1
    obtain ⟨u, h1, h2⟩ := hc j y hj
    exact ⟨u, by rw [Nat.zero_mul, Nat.zero_add, List.getElem?_append_left (by omega)]; exact h1, h2⟩
  | succ i =>
    simp at hi
    obtain ⟨u, h1, h2⟩ := h.2 i q j y hi hj
    exact ⟨u, by rw [Nat.succ_mul, List.getElem?_append_right (by omega), hl, show i * size + size + j - size = i * size + j by omega]; exact h1, h2⟩
theorem RowsR.append {t size : Nat} {xs ys : List (I t)} {us vs : List Value} (h : RowsR E Sl w t size xs us) (k : RowsR E Sl w t size ys vs) (hrl : ∀ r, (E.row t r).length = size) : RowsR E Sl w t size (xs ++ ys) (us ++ vs) := by
  refine ⟨by simp [h.1, k.1, Nat.add_mul], fun i q j y hi hj => ?_⟩
  rw [List.getElem?_append] at hi
  split at hi
  · rename_i hlt
    obtain ⟨u, h1, h2⟩ := h.2 i q j y hi hj
    have : i * size + j < us.length := (List.getElem?_eq_some_iff.1 h1).1
    exact ⟨u, by rw [List.getElem?_append_left this]; exact h1, h2⟩
  · rename_i hge
    obtain ⟨u, h1, h2⟩ := k.2 _ q j y hi hj
    have e : i * size = xs.length * size + (i - xs.length) * size := by rw [← Nat.add_mul]; congr 1; omega
    exact ⟨u, by rw [List.getElem?_append_right (by rw [h.1]; omega), h.1, show i * size + j - xs.length * size = (i - xs.length) * size + j by omega]; exact h1, h2⟩
theorem RowsR.move {t size : Nat} {xs : List (I t)} {vals : List Value} (h : RowsR E Sl w t size xs vals) (hS : ∀ g o, Sl g o → Sl' g o) (hc : ∀ g o u, Sl g o → w.cell? ⟨g, o, none⟩ = some u → w'.cell? ⟨g, o, none⟩ = some u) : RowsR E Sl' w' t size xs vals :=
  ⟨h.1, fun i r j y hi hj => by obtain ⟨u, h1, h2⟩ := h.2 i r j y hi hj; exact ⟨u, h1, h2.move hS hc⟩⟩
theorem sl_rows (hE : EnvOK P E) {t : Nat} {ti : TI} (ht : E.ty t = some ti) {v : Value} {xs : List (I t)} (h : DRep E Sl w v (.sl t xs)) :
    ∃ A n c vals, v = .slice A n c ∧ xs.length = n ∧ RowsR E Sl w t ti.size xs vals ∧ (0 < n → ∃ g o, A = some ⟨g, o, none⟩ ∧ ∀ j u, vals[j]? = some u → w.cell? ⟨g, o + j, none⟩ = some u) ∧ ∀ u ∈ vals, u.oneCell' = true := by
  cases h with
  | sl t xs A n c g o vs hn hcap hm hA hc hr =>
    have hrl : ∀ r, (E.row t r).length = ti.size := fun r => hE.row t ti r ht
    have idx : ∀ k, k < xs.length * ti.size → ∃ i j r y, k = i * ti.size + j ∧ xs[i]? = some r ∧ (E.row t r)[j]? = some y := by
      intro k hk
      have hpos : 0 < ti.size := by
        rcases Nat.eq_zero_or_pos ti.size with h | h
        · rw [h] at hk; omega
        · exact h
      have hi : k / ti.size < xs.length := by rw [Nat.div_lt_iff_lt_mul hpos]; exact hk
      have hj : k % ti.size < (E.row t xs[k / ti.size]).length := by rw [hrl]; exact Nat.mod_lt _ hpos
      exact ⟨k / ti.size, k % ti.size, xs[k / ti.size], (E.row t xs[k / ti.size])[k % ti.size], by rw [Nat.mul_comm]; exact (Nat.div_add_mod k ti.size).symm, List.getElem?_eq_getElem hi, List.getElem?_eq_getElem hj⟩
    have rng : ∀ i r j y, xs[i]? = some r → (E.row t r)[j]? = some y → i * ti.size + j < xs.length * ti.size := by
      intro i r j y hi hj
      have h1 : i < xs.length := (List.getElem?_eq_some_iff.1 hi).1
      have h2 : j < ti.size := by rw [← hrl r]; exact (List.getElem?_eq_some_iff.1 hj).1
      calc i * ti.size + j < i * ti.size + ti.size := by omega
        _ = (i + 1) * ti.size := by rw [Nat.succ_mul]
        _ ≤ xs.length * ti.size := Nat.mul_le_mul_right _ h1
    have get : ∀ k, k < xs.length * ti.size → ((List.range (xs.length * ti.size)).map vs)[k]? = some (vs k) := fun k hk => by simp [List.getElem?_map, List.getElem?_range hk]
    refine ⟨A, n, c, (List.range (xs.length * ti.size)).map vs, rfl, hn, ⟨by simp, fun i r j y hi hj => ?_⟩, fun hpos => ⟨g, o, hA hpos, fun k u hu => ?_⟩, fun u hu => ?_⟩
    · have := hr i r j y hi hj
      rw [hrl] at this
      exact ⟨_, get _ (rng i r j y hi hj), this⟩
    · have hk : k < xs.length * ti.size := by
        have := (List.getElem?_eq_some_iff.1 hu).1
        simpa using this
      obtain ⟨i, j, r, y, rfl, hi, hj⟩ := idx k hk
      rw [get _ hk] at hu
      injection hu with hu
      subst hu
      have := (hc i r j y hi hj).1
      rw [hrl] at this
      exact this
    · obtain ⟨k, hk⟩ := List.mem_iff_getElem?.1 hu
      have hk' : k < xs.length * ti.size := by
        have := (List.getElem?_eq_some_iff.1 hk).1
        simpa using this
      obtain ⟨i, j, r, y, rfl, hi, hj⟩ := idx k hk'
      rw [get _ hk'] at hk
      injection hk with hk
      subst hk
      have := (hr i r j y hi hj).one
      rw [hrl] at this
      exact this
theorem Con.addRow (h : Con E X B w0 Sl0 Ex γ Sl s a w) (h1 : w'.os = w.os) (h2 : w'.tape = w.tape) (h3 : w'.output = w.output) (h4 : w.heap.size ≤ w'.heap.size)
    (h5 : ∀ k, k < w.heap.size → w'.heap[k]? = w.heap[k]?) (hS : ∀ g o, Sl g o → Sl' g o) (hS' : ∀ g o, Sl' g o → Sl g o ∨ (w.heap.size ≤ g ∧ g < w'.heap.size))
    {nm t : Nat} {xs : List (I t)} {v : Value} {vals : List Value} {ti : TI} (hn : s.objs nm = none) (ht : E.ty t = some ti) (hown : w'.ownsRow 0 t ti.size v xs.length vals)
    (hr : RowsR E Sl' w' t ti.size xs vals) (hk : ∀ k, v.ownBlock = some k → w.heap.size ≤ k ∧ ∀ j, Sl' k j ↔ j < xs.length * ti.size) (hone : v.oneCell' = true) :
    Post E X B w0 Sl0 Ex (applyM [.obj nm ⟨0, t, xs⟩] s) a (.c (.own nm 0)) v w' := by
  have c1 := h.on h1 h2 h3 h4 h5 hS hS'
  have c2 := c1.obj (nm := nm) (x := ⟨0, t, xs⟩) (v := v) (vals := vals) (ti := ti) hn ht hown (fun i r j y hi hj => hr.2 i r j y hi hj)
    (fun k hk' => ⟨.inl (Nat.le_trans h.hB (hk k hk').1), (hk k hk').2⟩)
    (fun K k hK hv he => by have := h.fp_lt hK he; have := (hk k hv).1; omega)
  refine ⟨_, _, c2.1, .c _ _ (.own v nm 0 ⟨0, t, xs⟩ (by simp [applyM, upd_same]) (Nat.le_refl _) hone fun _ => by simp [Gam.setO])⟩
theorem seg (A C D F : List Value) (m : Nat) : List.take (A.length + C.length) (A ++ C ++ D) ++ F ++ List.drop (A.length + C.length + m) (A ++ C ++ D) = A ++ (C ++ F) ++ D.drop m := by
  have h1 : List.take (A.length + C.length) (A ++ C ++ D) = A ++ C := by rw [← List.length_append]; exact List.take_left
  have h2 : List.drop (A.length + C.length + m) (A ++ C ++ D) = D.drop m := by rw [← List.length_append, List.drop_append, List.drop_of_length_le (by omega), List.nil_append]; congr 1; omega
  rw [h1, h2]; simp [List.append_assoc]
theorem fill_rows (size : Nat) (ev : Operand → Value) : ∀ (ps : List (Nat × Operand)) (k : Nat) (cells : Array Value), ps.map (·.1) = List.range' k ps.length → (∀ p ∈ ps, (ev p.2).cells.size = size) → (k + ps.length) * size ≤ cells.size →
    ∃ res : Array Value, Instr.fill (fun i => some (i * size, size)) cells (ps.map fun (i, x) => (i, ev x)) = some res ∧
      res.toList = cells.toList.take (k * size) ++ (ps.flatMap fun p => (ev p.2).cells.toList) ++ cells.toList.drop ((k + ps.length) * size)
  | [], k, cells, _, _, _ => ⟨cells, rfl, by simp⟩
  | (i, x) :: ps, k, cells, hi, hs, hl => by
    simp only [List.map_cons, List.length_cons, List.range'_succ, List.cons.injEq] at hi
    obtain ⟨rfl, hi⟩ := hi
    have hx : (ev x).cells.size = size := hs (i, x) List.mem_cons_self
    have hb : (i + 1) * size ≤ cells.size := Nat.le_trans (Nat.mul_le_mul_right _ (by simp)) hl
    have hle : i * size + (ev x).cells.size ≤ cells.size := by rw [hx]; rw [Nat.succ_mul] at hb; exact hb
    have hst := fill_step cells (ev x) (i * size) hle
    have hsz : ((ev x).cells.zipIdx.foldl (fun (cs : Array Value) (x : Value × Nat) => match x with | (c, j) => cs.setIfInBounds (i * size + j) c) cells).size = cells.size := by
      have h0 : ((ev x).cells.zipIdx.foldl (fun (cs : Array Value) (x : Value × Nat) => match x with | (c, j) => cs.setIfInBounds (i * size + j) c) cells).toList.length = _ := congrArg List.length hst
      rw [Array.length_toList, List.length_append, List.length_append, List.length_take, List.length_drop, Array.length_toList, Array.length_toList] at h0
      omega
    obtain ⟨res, h1, h2⟩ := fill_rows size ev ps (i + 1) _ hi (fun p hp => hs p (List.mem_cons_of_mem _ hp)) (by rw [hsz]; simp only [List.length_cons] at hl; rw [show i + 1 + ps.length = i + (ps.length + 1) by omega]; exact hl)
    refine ⟨res, ?_, ?_⟩
    · simp only [List.map_cons, Instr.fill]
      rw [if_neg (by simp only [ne_eq, Bool.or_eq_true, decide_eq_true_eq, not_or]; omega)]
      exact h1
    · rw [h2, hst, hx]
      have e1 : (List.take (i * size) cells.toList).length = i * size := by simp; omega
      have e2 : (i + 1) * size = i * size + size := Nat.succ_mul _ _
      have hxl : (ev x).cells.toList.length = size := by simpa using hx
      have e3 : (i + 1 + ps.length) * size = i * size + size + ps.length * size := by rw [Nat.add_mul, Nat.succ_mul]
      have e4 : (i + ((i, x) :: ps).length) * size = i * size + size + ps.length * size := by simp only [List.length_cons]; rw [show i + (ps.length + 1) = i + 1 + ps.length by omega]; exact e3
      have := seg (List.take (i * size) cells.toList) (ev x).cells.toList (List.drop (i * size + size) cells.toList) (ps.flatMap fun p => (ev p.2).cells.toList) (ps.length * size)
      rw [e1, hxl] at this
      rw [e2, e3, this, e4, List.drop_drop]
      simp [List.append_assoc]
theorem rowsOf_ok (hE : EnvOK P E) (h : Con E X B w0 Sl0 Ex γ Sl s a w) (hob : ∀ o y, ob o = some y → s.objs o = some y) {e : Nat} {ei : TI} (he : E.ty e = some ei) (ev : Operand → Value) (ρ : Operand → AV I) (hρ : ∀ x, VRep E Sl w X B γ s.boxes s.objs s.fxs (ev x) (ρ x)) :
    ∀ (ps : List (Nat × Operand)) (xs : List (I e)), rowsOf E ob e (ps.map fun (_, x) => ρ x) = some xs → (∀ p ∈ ps, (ev p.2).cells.size = ei.size) ∧ xs.length = ps.length ∧ RowsR E Sl w e ei.size xs (ps.flatMap fun p => (ev p.2).cells.toList)
  | [], xs, hx => by simp [rowsOf] at hx; subst hx; exact ⟨by simp, rfl, RowsR.nil _ _⟩
  | (i, x) :: ps, xs, hx => by
    simp only [List.map_cons, rowsOf] at hx
    split at hx
    · rename_i vs hvs
      split at hx
      · rename_i r hr
        cases hrest : rowsOf E ob e (ps.map fun (_, x) => ρ x) with
        | none => rw [hrest] at hx; cases hx
        | some ys =>
          rw [hrest] at hx
          simp at hx
          subst hx
          obtain ⟨i1, i2, i3⟩ := rowsOf_ok hE h hob he ev ρ hρ ps ys hrest
          obtain ⟨k1, k2⟩ := (hρ x).cells hvs
          have hl := hE.madeLen e _ r hr
          have hrl := hE.row e ei r he
          have hsz : (ev x).cells.size = ei.size := by simp at hl; omega
          refine ⟨fun p hp => ?_, by simp [i2], ?_⟩
          · rcases List.mem_cons.1 hp with rfl | hp
            · exact hsz
            · exact i1 p hp
          · simp only [List.flatMap_cons]
            refine RowsR.cons (by simpa using hsz) hrl (fun j y hj => ?_) i3
            obtain ⟨y', hy', hle⟩ := hE.made e _ r hr j y hj
            simp [List.getElem?_map] at hy'
            obtain ⟨c, hc, rfl⟩ := hy'
            have hlt : j < (ev x).cells.size := by rw [k1]; exact (List.getElem?_eq_some_iff.1 hc).1
            have := k2 j c hc
            simp [Array.getD_eq_getD_getElem?, hlt] at this
            exact ⟨(ev x).cells[j], by simp [hlt], (settle_rep (ob' := ob) hob (h.objRep hE) this).le hle⟩
      · cases hx
    · cases hx
theorem buildSlice_ok (hE : EnvOK P E) (h : Con E X B w0 Sl0 Ex γ Sl s a w) (hob : ∀ o y, ob o = some y → s.objs o = some y) {nm t n e : Nat} {ei : TI} (he : elemOf E t = some (e, ei)) {ps : Array (Nat × Operand)} (ev : Operand → Value) (ρ : Operand → AV I) (hρ : ∀ x, VRep E Sl w X B γ s.boxes s.objs s.fxs (ev x) (ρ x))
    {xs : List (I e)} (hx : rowsOf E ob e (ps.toList.map fun (_, x) => ρ x) = some xs) (hn : s.objs nm = none) (hi : ps.toList.map (·.1) = List.range n) (hb : n * ei.size ≤ 16777216) (hbn : n ≤ 16777216) :
    ∃ u w', (Instr.buildSlice t n (ps.map fun (i, x) => (i, ev x))).run P w = .ok u w' ∧ Post E X B w0 Sl0 Ex (applyM [.obj nm ⟨0, e, xs⟩] s) a (.c (.own nm 0)) u w' := by
  obtain ⟨hu, hte⟩ := hE.elem he
  obtain ⟨i1, i2, i3⟩ := rowsOf_ok hE h hob hte ev ρ hρ ps.toList xs hx
  have hlen : ps.toList.length = n := by have := congrArg List.length hi; simpa using this
  obtain ⟨z, hz, hzc⟩ := hE.zeroV hte w
  have key : ∀ cells : Array Value, cells.size = n * ei.size → ∃ res : Array Value, Instr.fill (fun i => some (i * ei.size, ei.size)) cells (ps.toList.map fun (i, x) => (i, ev x)) = some res ∧ res.toList = ps.toList.flatMap fun p => (ev p.2).cells.toList := by
    intro cells hc
    obtain ⟨res, h1, h2⟩ := fill_rows ei.size ev ps.toList 0 cells (by rw [hi, hlen, List.range_eq_range']) i1 (by rw [hlen, hc]; simp)
    refine ⟨res, h1, ?_⟩
    rw [h2]
    have : cells.toList.length = n * ei.size := by simpa using hc
    simp only [Nat.zero_mul, List.take_zero, List.nil_append, Nat.zero_add, hlen]
    rw [List.drop_of_length_le (by omega), List.append_nil]
  have hb' : ¬ n * ei.size > 2 ^ 24 := by omega
  have hrunE : ∃ res : Array Value, res.toList = (ps.toList.flatMap fun p => (ev p.2).cells.toList) ∧
        (Instr.buildSlice t n (ps.map fun (i, x) => (i, ev x))).run P w = .ok (.slice (some ⟨w.heap.size, 0, none⟩) n n) (w.alloc (.cells res e)) := by
    by_cases h0 : n * ei.size = 0
    · obtain ⟨res, h1, h2⟩ := key ((Array.range (n * ei.size)).map ((#[] : Array Value)[· % (#[] : Array Value).size]!)) (by simp)
      refine ⟨res, h2, ?_⟩
      simp only [Instr.buildSlice, Sem.run_bind, run_underlying hu w, Result.andThen_ok, hE.sizeOf hte w, hb', if_false, Array.toList_map]
      rw [if_pos h0]
      simp only [Sem.run_bind, Sem.run_pure, Result.andThen_ok, h1, newRow, run_newObj_alloc]
    · obtain ⟨res, h1, h2⟩ := key ((Array.range (n * ei.size)).map (z.cells[· % z.cells.size]!)) (by simp)
      refine ⟨res, h2, ?_⟩
      simp only [Instr.buildSlice, Sem.run_bind, run_underlying hu w, Result.andThen_ok, hE.sizeOf hte w, hb', if_false, Array.toList_map]
      rw [if_neg h0]
      simp only [Sem.run_bind, hz, Sem.run_pure, Result.andThen_ok, h1, newRow, run_newObj_alloc]
  obtain ⟨res, hres, hrun⟩ := hrunE
  refine ⟨_, _, hrun, ?_⟩
  have hxn : xs.length = n := by rw [i2, hlen]
  have hflat : (ps.toList.flatMap fun p => (ev p.2).cells.toList).length = n * ei.size := by rw [i3.1, hxn]
  have m : ∀ g o u, Sl g o → w.cell? ⟨g, o, none⟩ = some u → (w.alloc (.cells res e)).cell? ⟨g, o, none⟩ = some u := fun g o u _ hu => (cell_same (heap_alloc_old w _ g (cell_block hu))).trans hu
  refine h.addRow (w' := w.alloc (.cells res e)) (Sl' := fun g j => Sl g j ∨ (g = w.heap.size ∧ j < n * ei.size)) rfl rfl rfl (by simp) (fun k hk => heap_alloc_old w _ k hk) (fun g o hs => .inl hs)
    (fun g o hs => hs.imp id fun hx => ⟨by omega, by rw [hx.1]; simp⟩) (vals := ps.toList.flatMap fun p => (ev p.2).cells.toList) (ti := ei) hn hte ?_ (i3.move (fun _ _ h => .inl h) m) ?_ rfl
  · refine ⟨by rw [hflat, hxn], .inr ⟨w.heap.size, n, res, by rw [hxn], Nat.zero_le _, heap_alloc_new w _, by omega, ?_, ?_, ?_⟩⟩
    · simp only [maxLen]; omega
    · have := congrArg List.length hres
      rw [hflat] at this
      simpa using this
    · rw [hres, List.take_of_length_le (by rw [hflat, hxn]; exact Nat.le_refl _)]
  · intro k hk
    simp [Value.ownBlock] at hk
    subst hk
    refine ⟨Nat.le_refl _, fun j => ⟨fun hs => ?_, fun hj => .inr ⟨rfl, by rw [← hxn]; exact hj⟩⟩⟩
    rcases hs with hs | hs
    · have := h.sh _ _ hs; omega
    · rw [hxn]; exact hs.2
end
end Go.Ev
end
section
namespace Go.Ev
open Go.RowKit
variable {I : Nat → Type}
section
variable {P : Program} {E : Env I} {sp : Nat → List (AV I) → Tree (RV I)} {X : Nat → Prop} {B : Nat} {w0 : World} {Sl0 : Nat → Nat → Prop} {Ex : Value → AV I → Prop} {γ : Gam} {Sl Sl' : Nat → Nat → Prop} {s : AS I} {a : Act} {w w' : World} {bx : Nat → Option (List (CV I))} {ob : Nat → Option (Obj I)} {fx : Nat → Option (I 1000003)}
inductive Grew (w : World) (e size n : Nat) (all : List Value) : Value → World → Value → Prop
  | same (v : Value) (h : w.ownsRow 0 e size v n all) : Grew w e size n all v w v
  | room (g c cap : Nat) (arr old : Array Value) (v : Value) (hv : v = .slice (some ⟨g, 0, none⟩) c cap) (hg : w.heap[g]? = some (.cells old e (0, 0))) (h : (w.setRow g arr).ownsRow 0 e size (.slice (some ⟨g, 0, none⟩) n cap) n all) :
      Grew w e size n all v (w.setRow g arr) (.slice (some ⟨g, 0, none⟩) n cap)
  | grown (v : Value) (cap : Nat) (arr : Array Value) (h : (w.drew.alloc (.cells arr e)).ownsRow 0 e size (.slice (some ⟨w.heap.size, 0, none⟩) n cap) n all) :
      Grew w e size n all v (w.drew.alloc (.cells arr e)) (.slice (some ⟨w.heap.size, 0, none⟩) n cap)
theorem fresh_row (w : World) (e size n old : Nat) (z : Array Value) (all : List Value) (hz : z.size = size) (hl : all.length = n * size) (hm : n ≤ maxLen) :
    (w.drew.alloc (.cells (all.toArray ++ Builtin.zeroCells z (grownCap w n old e - n)) e)).ownsRow 0 e size (.slice (some ⟨w.heap.size, 0, none⟩) n (grownCap w n old e)) n all := by
  have hge := grownCap_ge w n old e
  have hcm := grownCap_le_maxLen w n old e hm
  refine ⟨hl, .inr ⟨w.heap.size, _, _, rfl, Nat.zero_le _, heap_alloc_new w.drew _, hge, hcm, ?_, ?_⟩⟩
  · rw [Array.size_append, List.size_toArray, size_zeroCells, hz, hl, ← Nat.add_mul]
    congr 1; omega
  · rw [Array.toList_append, List.toList_toArray, ← hl]
    exact List.take_left
theorem append_run (hE : EnvOK P E) {t e : Nat} {ei : TI} (he : elemOf E t = some (e, ei)) (hs0 : ei.size ≠ 0) (hb0 : ei.bytes ≠ 0) (ty : TypeId) {v : Value} {n : Nat} {olds : List Value} (hown : w.ownsRow 0 e ei.size v n olds)
    {A : Option Addr} {m c : Nat} {news : List Value} (hl : news.length = m * ei.size) (hA : 0 < m → ∃ g o, A = some ⟨g, o, none⟩ ∧ ∀ j u, news[j]? = some u → w.cell? ⟨g, o + j, none⟩ = some u) (h1 : ∀ u ∈ news, u.oneCell' = true)
    (hb : (n + m) * ei.bytes ≤ 140737488355328) :
    ∃ v' w', (Builtin.append_ #[t, t] ty #[v, .slice A m c]).run P w = .ok v' w' ∧ Grew w e ei.size (n + m) (olds ++ news) v w' v' := by
  obtain ⟨hu, hte⟩ := hE.elem he
  have hinf := hE.info e ei hte
  cases hi : P.info? e with
  | none => rw [hi] at hinf; cases hinf
  | some i =>
    rw [hi] at hinf
    simp only [Option.map_some, Option.some.injEq, Prod.mk.injEq] at hinf
    obtain ⟨k1, k2, k3⟩ := hinf
    cases hz : i.zero with
    | none => rw [hz] at k3; cases k3
    | some z =>
      rw [hz] at k3
      simp only [Option.map_some, Option.some.injEq] at k3
      have hzs : z.cells.size = ei.size := by
        have := (hE.zero e ei hte).1
        rw [← k3] at this; simpa using this
      have hnm : n + m ≤ 140737488355328 := Nat.le_trans (Nat.le_mul_of_pos_right _ (by omega)) hb
      have hm63 : n + m ≤ maxLen := by simp only [maxLen]; omega
      have hlen : (olds ++ news).length = (n + m) * ei.size := by rw [List.length_append, hown.1, hl, Nat.add_mul]
      rcases Nat.eq_zero_or_pos m with hm | hm
      · subst hm
        have hn0 : news = [] := List.eq_nil_of_length_eq_zero (by simpa using hl)
        subst hn0
        refine ⟨v, w, ?_, by simpa using Grew.same v hown⟩
        have hfirst : (Builtin.firstCells i.size 0 (.slice A 0 c)).run P w = .ok #[] w := by cases A <;> simp [Builtin.firstCells, loadCells, loadCellsFrom]
        rcases hown.2 with ⟨rfl, _⟩ | ⟨g, cap, cur, rfl, _, _, hnc, _⟩
        · simp [Builtin.append_, run_underlying hu, sizeOf, typeInfo, hi, Builtin.lenOf, hfirst]
        · simp [Builtin.append_, run_underlying hu, sizeOf, typeInfo, hi, Builtin.lenOf, hfirst, hnc, storeCells]
      · obtain ⟨ga, oa, rfl, hnews⟩ := hA hm
        have hnews' : ∀ j u, news[j]? = some u → w.cell? ((⟨ga, oa, none⟩ : Addr).add j) = some u := fun j u hj => by rw [add_at]; exact hnews j u hj
        rcases hown.2 with ⟨rfl, rfl⟩ | ⟨g, cap, cur, rfl, _, hg, hnc, hcm, hcs, htake⟩
        · have ho : olds = [] := List.eq_nil_of_length_eq_zero (by simpa using hown.1)
          subst ho
          have hr := run_append_nil (P := P) w t ty e i z hu hi hz ⟨ga, oa, none⟩ m c news (by rw [k1]; exact hl) hnews' hm (by omega) (by rw [k2]; simp only [Nat.zero_add] at hb; omega)
          have hf := fresh_row w e ei.size m 0 z.cells news hzs hl (by omega)
          simp only [Nat.zero_add, List.nil_append]
          exact ⟨_, _, hr, .grown _ _ _ hf⟩
        · by_cases hroom : n + m ≤ cap
          · have hfit : n * i.size + news.length ≤ cur.size := by rw [hl, hcs, k1, ← Nat.add_mul]; exact Nat.mul_le_mul_right _ hroom
            have hr := run_append_room (P := P) w t ty e i hu hi g n cap cur hg ⟨ga, oa, none⟩ m c news (by rw [k1]; exact hl) hnews' h1 hroom hfit
            refine ⟨_, _, hr, .room g n cap _ cur _ rfl hg ⟨hlen, .inr ⟨g, cap, _, rfl, Nat.zero_le _, setRow_heap w g cur _ e _ hg, hroom, hcm, ?_, ?_⟩⟩⟩
            · simp only [List.size_toArray, List.length_append, List.length_take, List.length_drop, Array.length_toList]
              omega
            · rw [k1, htake, ← hlen]
              exact List.take_left
          · have holds : ∀ j u, olds[j]? = some u → w.cell? ((⟨g, 0, none⟩ : Addr).add j) = some u := hown.cells (g := g) rfl
            have hr := run_append_grow (P := P) w t ty e i z hu hi hz ⟨g, 0, none⟩ n cap olds (by rw [k1]; exact hown.1) holds ⟨ga, oa, none⟩ m c news (by rw [k1]; exact hl) hnews' (by omega) (by omega) (growslice_fits (by omega) (by rw [k2]; exact hb))
            have hf := fresh_row w e ei.size (n + m) cap z.cells (olds ++ news) hzs hlen hm63
            rw [← List.append_toArray] at hf
            exact ⟨_, _, hr, .grown _ _ _ hf⟩
theorem ownsRow_slice {base e size : Nat} {v : Value} {n : Nat} {xs : List Value} (h : w.ownsRow base e size v n xs) : v.oneCell' = true := by
  rcases h.2 with ⟨rfl, _⟩ | ⟨g, cap, cur, rfl, _⟩ <;> rfl
theorem append_new (hE : EnvOK P E) (h : Con E X B w0 Sl0 Ex γ Sl s a w) {nm t e : Nat} {ei : TI} (he : elemOf E t = some (e, ei)) (hs0 : ei.size ≠ 0) (hb0 : ei.bytes ≠ 0) (ty : TypeId) {ys : List (I e)} {u : Value} (hn : s.objs nm = none)
    (hu : DRep E Sl w u (.sl e ys)) (hb : ys.length * ei.bytes ≤ 140737488355328) :
    ∃ v' w', (Builtin.append_ #[t, t] ty #[.slice none 0 0, u]).run P w = .ok v' w' ∧ Post E X B w0 Sl0 Ex (applyM [.obj nm ⟨0, e, ys⟩] s) a (.c (.own nm 0)) v' w' := by
  obtain ⟨hun, hte⟩ := hE.elem he
  obtain ⟨A, m, c, vals, rfl, hm, hR, hA, h1⟩ := sl_rows hE hte hu
  obtain ⟨v', w', hr, hg⟩ := append_run (w := w) hE he hs0 hb0 ty (v := .slice none 0 0) (n := 0) (olds := []) (World.ownsRow_nil w 0 e ei.size) (A := A) (m := m) (c := c) (news := vals) (by rw [hR.1, hm]) hA h1 (by rw [Nat.zero_add, ← hm]; exact hb)
  refine ⟨v', w', hr, ?_⟩
  simp only [Nat.zero_add, List.nil_append] at hg
  cases hg with
  | same _ hown =>
    refine h.addRow (w' := w) (Sl' := Sl) rfl rfl rfl (Nat.le_refl _) (fun _ _ => rfl) (fun _ _ h => h) (fun _ _ h => .inl h) hn hte (by rw [hm]; exact hown) hR (fun k hk => by simp [Value.ownBlock] at hk) rfl
  | room g c cap arr old _ hv hg hown => cases hv
  | grown _ cap arr hown =>
    have mv : ∀ g o u, Sl g o → w.cell? ⟨g, o, none⟩ = some u → (w.drew.alloc (.cells arr e)).cell? ⟨g, o, none⟩ = some u := fun g o u _ hu => (cell_same (heap_alloc_old w.drew _ g (cell_block hu))).trans hu
    refine h.addRow (w' := w.drew.alloc (.cells arr e)) (Sl' := fun g j => Sl g j ∨ (g = w.heap.size ∧ j < m * ei.size)) rfl rfl rfl (by simp) (fun k hk => heap_alloc_old w.drew _ k hk) (fun g o hs => .inl hs)
      (fun g o hs => hs.imp id fun hx => ⟨by omega, by rw [hx.1]; simp⟩) hn hte (by rw [hm]; exact hown) (hR.move (fun _ _ h => .inl h) mv) (fun k hk => ?_) rfl
    simp [Value.ownBlock] at hk
    subst hk
    refine ⟨Nat.le_refl _, fun j => ⟨fun hs => ?_, fun hj => .inr ⟨rfl, by rw [← hm]; exact hj⟩⟩⟩
    rcases hs with hs | hs
    · have := h.sh _ _ hs; omega
    · rw [hm]; exact hs.2
theorem append_onto (hE : EnvOK P E) (h : Con E X B w0 Sl0 Ex γ Sl s a w) {t e o : Nat} {ei : TI} (he : elemOf E t = some (e, ei)) (hs0 : ei.size ≠ 0) (hb0 : ei.bytes ≠ 0) (ty : TypeId) {xs ys : List (I e)} {ver : Nat} {u : Value} (ho : s.objs o = some ⟨ver, e, xs⟩)
    (hu : DRep E Sl w u (.sl e ys)) (hb : (xs ++ ys).length * ei.bytes ≤ 140737488355328) :
    ∃ v' w', (Builtin.append_ #[t, t] ty #[γ.o o, u]).run P w = .ok v' w' ∧ Post E X B w0 Sl0 Ex (applyM [.obj o ⟨ver + 1, e, xs ++ ys⟩] s) a (.c (.own o (ver + 1))) v' w' := by
  obtain ⟨hun, hte⟩ := hE.elem he
  obtain ⟨A, m, c, news, rfl, hm, hR, hA, h1⟩ := sl_rows hE hte hu
  obtain ⟨olds, ti, ht, hown, hrow, hk⟩ := h.ob o _ ho
  have : ti = ei := by simp only at ht; rw [hte] at ht; injection ht with ht; exact ht.symm
  subst this
  simp only at hown hrow hk
  have hrl : ∀ r, (E.row e r).length = ti.size := fun r => hE.row e ti r hte
  have hRo : RowsR E Sl w e ti.size xs olds := ⟨hown.1, hrow⟩
  have hRR := hRo.append hR hrl
  obtain ⟨v', w', hr, hg⟩ := append_run (w := w) hE he hs0 hb0 ty (v := γ.o o) (n := xs.length) (olds := olds) hown (A := A) (m := m) (c := c) (news := news) (by rw [hR.1, hm]) hA h1 (by rw [← hm, ← List.length_append]; exact hb)
  have hlen : (xs ++ ys).length = xs.length + m := by rw [List.length_append, hm]
  refine ⟨v', w', hr, ?_⟩
  -- what is common
  have fin : ∀ (w1 : World) (v1 : Value) (k1 : Nat), w1.os = w.os → w1.tape = w.tape → w1.output = w.output → w.heap.size ≤ w1.heap.size → (∀ k, k < w.heap.size → some k ≠ (γ.o o).ownBlock → w1.heap[k]? = w.heap[k]?) →
      w1.ownsRow 0 e ti.size v1 (xs.length + m) (olds ++ news) → v1.ownBlock = some k1 → (some k1 = (γ.o o).ownBlock ∨ (k1 = w.heap.size ∧ k1 < w1.heap.size ∧ ∀ k, k < w.heap.size → w1.heap[k]? = w.heap[k]?)) → v1.oneCell' = true →
      (∀ g j u, (γ.o o).ownBlock = some g → j < xs.length * ti.size → w.cell? ⟨g, j, none⟩ = some u → w1.cell? ⟨g, j, none⟩ = some u) → Post E X B w0 Sl0 Ex (applyM [.obj o ⟨ver + 1, e, xs ++ ys⟩] s) a (.c (.own o (ver + 1))) v1 w1 := by
    intro w1 v1 k1 e1 e2 e3 e4 e5 hown1 hk1 hor hone hcell
    let Sl1 : Nat → Nat → Prop := fun g j => Sl g j ∨ (g = k1 ∧ j < (xs.length + m) * ti.size)
    have hko : ∀ k, (γ.o o).ownBlock = some k → (B ≤ k ∨ X k) ∧ ∀ j, Sl k j ↔ j < xs.length * ti.size := fun k hk' => ⟨h.mine (.obj o) k (by show s.objs o ≠ none; rw [ho]; simp) (by simp [Gam.fpK, hk']), hk k hk'⟩
    have own1 : ∀ b, (γ.setO o v1).o b = if b = o then v1 else γ.o b := fun b => rfl
    have m1 : Moves Sl Sl1 w w1 X B γ (γ.setO o v1) s.boxes s.boxes s.objs (upd s.objs o (some ⟨ver + 1, e, xs ++ ys⟩)) s.fxs s.fxs := by
      refine ⟨fun g j hs => .inl hs, fun g j u hs hu => ?_, fun b hb => ⟨hb, rfl⟩, fun q x hx => ?_, fun r hr => ⟨hr, rfl⟩⟩
      · by_cases hg : (γ.o o).ownBlock = some g
        · rcases hs with hs | ⟨hs1, hs2⟩
          · exact hcell g j u hg (((hko g hg).2 j).1 hs) hu
          · rcases (hko g hg).1 with hB | hX
            · omega
            · exact absurd hX hs2
        · exact (cell_same (e5 g (cell_block hu) (fun he => hg he.symm))).trans hu
      · by_cases hq : q = o
        · subst hq
          rw [ho] at hx
          injection hx with hx
          subst hx
          exact ⟨_, by rw [upd_same], by simp, fun h => by simp at h⟩
        · exact ⟨x, by rw [upd_other _ _ _ _ hq]; exact hx, Nat.le_refl _, fun _ => by rw [own1, if_neg hq]⟩
    have live : ∀ q, upd s.objs o (some ⟨ver + 1, e, xs ++ ys⟩) q ≠ none → s.objs q ≠ none := by
      intro q hq
      rw [upd_eq] at hq
      split at hq
      · rename_i e; rw [e, ho]; simp
      · exact hq
    have liveK : ∀ K, Live s.boxes (upd s.objs o (some ⟨ver + 1, e, xs ++ ys⟩)) s.fxs K → Live s.boxes s.objs s.fxs K := by
      intro K hK
      cases K with
      | obj q => exact live q hK
      | box b => exact hK
      | fx r => exact hK
    have sameK : ∀ K, Live s.boxes (upd s.objs o (some ⟨ver + 1, e, xs ++ ys⟩)) s.fxs K → K ≠ .obj o → (γ.setO o v1).fpK K = γ.fpK K := by
      intro K _ hne
      cases K with
      | obj q => have : q ≠ o := fun he => hne (by rw [he]); simp [Gam.fpK, own1, this]
      | box b => rfl
      | fx r => rfl
    have fresh1 : ∀ K k, (Live s.boxes s.objs s.fxs K ∧ K ≠ .obj o) → k ∈ (γ.setO o v1).fpK (.obj o) → k ∈ γ.fpK K → False := by
      intro K k hK h1 h2
      have hk2 : k = k1 := by
        have h1 : v1.ownBlock = some k := by simpa [Gam.fpK, own1] using h1
        rw [hk1] at h1
        injection h1 with h1; exact h1.symm
      subst hk2
      rcases hor with h3 | h3
      · exact hK.2 (h.dj K (.obj o) k hK.1 (by show s.objs o ≠ none; rw [ho]; simp) h2 (by simp [Gam.fpK, ← h3]))
      · have := h.fp_lt hK.1 h2; omega
    have notmine : ∀ k, k < w.heap.size → (γ.o o).ownBlock ≠ some k → k ≠ k1 := by
      intro k hk hne he
      rcases hor with h1 | h1
      · exact hne (by rw [← h1, he])
      · omega
    refine ⟨γ.setO o v1, Sl1, ⟨h.df, fun t => (h.tm t).move m1, fun v x hx => (h.ex v x hx).move m1, fun b cs hb' => ?_, fun q x hx => ?_, fun r x hr => ?_, fun K k hK hk' => ?_, dj_new (L := fun K => Live s.boxes s.objs s.fxs K ∧ K ≠ .obj o) (γ := γ) (N := .obj o) (fun K K' k h1 h2 => h.dj K K' k h1.1 h2.1) (fun K hK hne => ⟨liveK K hK, hne⟩) sameK fresh1, fun g j hs => .inl (h.s0 g j hs), fun g j hs => ?_, fun g j hs => ?_, fun g j u hs hu => m1.c g j u (.inl (h.s0 g j hs)) (h.sc g j u hs hu), ?_, Nat.le_trans h.hB e4⟩, ?_⟩
    · obtain ⟨vs, e', c1, c2, c3, c5⟩ := h.bx b cs hb'
      have hlt : γ.b b < w.heap.size := (Array.getElem?_eq_some_iff.1 c1).1
      have hne : (γ.o o).ownBlock ≠ some (γ.b b) := fun he => h.xo o b (by rw [ho]; simp) (fun h0 => by rw [show s.boxes b = some cs from hb'] at h0; cases h0) he
      refine ⟨vs, e', (e5 _ hlt (fun h => hne h.symm)).trans c1, c2, fun j y hj => (c3 j y hj).move m1, fun j hs => ?_⟩
      rcases hs with hs | ⟨hs, _⟩
      · exact c5 j hs
      · exact notmine _ hlt hne hs
    · by_cases hq : q = o
      · subst hq
        simp only [applyM, upd_same, Option.some.injEq] at hx
        subst hx
        have : (γ.setO q v1).o q = v1 := by rw [own1, if_pos rfl]
        rw [this]
        refine ⟨olds ++ news, ti, hte, by rw [hlen]; exact hown1, fun i r j y hi hj => ?_, fun k hk' => ?_⟩
        · obtain ⟨u, hu, hd⟩ := hRR.2 i r j y hi hj
          exact ⟨u, hu, hd.move m1.S fun g o u hs => m1.c g o u (.inl hs)⟩
        · rw [hk1] at hk'
          injection hk' with hk'
          subst hk'
          refine fun j => ⟨fun hs => ?_, fun hj => .inr ⟨rfl, by rw [← hlen]; exact hj⟩⟩
          rcases hs with hs | ⟨_, hs⟩
          · rcases hor with h1 | h1
            · have := ((hko k1 h1.symm).2 j).1 hs
              rw [hlen, Nat.add_mul]; omega
            · have := h.sh _ _ hs; omega
          · rw [hlen]; exact hs
      · simp only [applyM, upd_other _ _ _ _ hq] at hx
        rw [own1, if_neg hq]
        obtain ⟨vals, tq, k0, k1', k2, k3⟩ := h.ob q x hx
        have hdis : ∀ k, (γ.o q).ownBlock = some k → (γ.o o).ownBlock ≠ some k := fun k hk' he' => hq (h.oi q o k (by rw [hx]; simp) (by rw [ho]; simp) hk' he')
        refine ⟨vals, tq, k0, ownsRow_block w w1 _ _ _ _ _ _ k1' (fun k hk' => e5 k (ownsRow_lt k1' hk') (fun he' => hdis k hk' he'.symm)), fun i r j y hi hj => ?_, fun k hk' j => ?_⟩
        · obtain ⟨u, hu, hd⟩ := k2 i r j y hi hj
          exact ⟨u, hu, hd.move m1.S fun g o u hs => m1.c g o u (.inl hs)⟩
        · rw [← k3 k hk' j]
          exact ⟨fun hs => hs.elim id fun hx => absurd hx.1 (notmine k (ownsRow_lt k1' hk') (hdis k hk')), fun hs => .inl hs⟩
    · obtain ⟨k1', k2, kn, k3⟩ := h.fx r x hr
      have hfo : ∀ k, k ∈ γ.fp r → (γ.o o).ownBlock ≠ some k := fun k hk' he' => h.of' r o k (fun h0 => by rw [show s.fxs r = some x from hr] at h0; cases h0) (by rw [ho]; simp) hk' he'
      refine ⟨E.frame x Sl Sl1 w w1 _ _ k1' m1.S (fun g o u hs => m1.c g o u (.inl hs)) fun k hk' => e5 k (k3 k hk').1 (fun he' => hfo k hk' he'.symm), k2, kn, fun k hk' => ⟨Nat.lt_of_lt_of_le (k3 k hk').1 e4, fun j hs => ?_⟩⟩
      rcases hs with hs | ⟨hs, _⟩
      · exact (k3 k hk').2 j hs
      · exact notmine k (k3 k hk').1 (hfo k hk') hs
    · by_cases hKo : K = .obj o
      · subst hKo
        have hk' : v1.ownBlock = some k := by simpa [Gam.fpK, own1] using hk'
        rw [hk1] at hk'
        injection hk' with hk'
        subst hk'
        rcases hor with h1 | h1
        · exact (hko k1 h1.symm).1
        · left; have := h.hB; omega
      · have hsk : (γ.setO o v1).fpK K = γ.fpK K := sameK K hK hKo
        have hk2 : k ∈ (γ.setO o v1).fpK K := hk'
        rw [hsk] at hk2
        exact h.mine K k (liveK K hK) hk2
    · rcases hs with hs | ⟨hs, _⟩
      · exact h.s1 g j hs
      · rcases hor with h1 | h1
        · rcases (hko k1 h1.symm).1 with hB | hX
          · right; left; omega
          · right; right; rw [hs]; exact hX
        · right; left; have := h.hB; omega
    · rcases hs with hs | ⟨hs, _⟩
      · exact Nat.lt_of_lt_of_le (h.sh g j hs) e4
      · subst hs
        exact (hown1.lt g hk1).2
    · refine h.kp.of e1 e2 e3 e4 fun i hi hx => e5 i (Nat.lt_of_lt_of_le hi h.hB) fun he' => ?_
      rcases (hko i he'.symm).1 with hB | hX
      · omega
      · exact hx hX
    · refine .c _ _ (.own v1 o (ver + 1) ⟨ver + 1, e, xs ++ ys⟩ (by simp [applyM, upd_same]) (Nat.le_refl _) hone fun _ => by rw [own1, if_pos rfl])
  have cells_same : ∀ w1 : World, ∀ v1 : Value, w1.ownsRow 0 e ti.size v1 (xs.length + m) (olds ++ news) → v1.ownBlock = (γ.o o).ownBlock → ∀ g j u, (γ.o o).ownBlock = some g → j < xs.length * ti.size → w.cell? ⟨g, j, none⟩ = some u → w1.cell? ⟨g, j, none⟩ = some u := by
    intro w1 v1 ho1 hv1 g j u hg' hj hu
    have hj' : j < olds.length := by rw [hown.1]; exact hj
    have h1 := hown.cells hg' j olds[j] (List.getElem?_eq_getElem hj')
    have h2 := ho1.cells (hv1.trans hg') j olds[j] (by rw [List.getElem?_append_left hj']; exact List.getElem?_eq_getElem hj')
    rw [add_at, Nat.zero_add] at h1 h2
    rw [h1] at hu
    rw [h2, hu]
  cases hg with
  | same _ hown' =>
    cases hk1 : (γ.o o).ownBlock with
    | some k1 => exact fin w (γ.o o) k1 rfl rfl rfl (Nat.le_refl _) (fun _ _ _ => rfl) hown' hk1 (.inl hk1.symm) (ownsRow_slice hown') (fun _ _ _ _ _ hu => hu)
    | none =>
      -- nothing was there, nothing is appended
      have m1 : Moves Sl Sl w w X B γ γ s.boxes s.boxes s.objs (upd s.objs o (some ⟨ver + 1, e, xs ++ ys⟩)) s.fxs s.fxs := by
        refine ⟨fun _ _ h => h, fun _ _ _ _ h => h, fun b hb => ⟨hb, rfl⟩, fun q x hx => ?_, fun r hr => ⟨hr, rfl⟩⟩
        by_cases hq : q = o
        · subst hq
          rw [ho] at hx
          injection hx with hx
          subst hx
          exact ⟨_, by rw [upd_same], by simp, fun h => by simp at h⟩
        · exact ⟨x, by rw [upd_other _ _ _ _ hq]; exact hx, Nat.le_refl _, fun _ => rfl⟩
      have live : ∀ q, upd s.objs o (some ⟨ver + 1, e, xs ++ ys⟩) q ≠ none → s.objs q ≠ none := by
        intro q hq
        rw [upd_eq] at hq
        split at hq
        · rename_i e; rw [e, ho]; simp
        · exact hq
      have liveK : ∀ K, Live s.boxes (upd s.objs o (some ⟨ver + 1, e, xs ++ ys⟩)) s.fxs K → Live s.boxes s.objs s.fxs K := by
        intro K hK
        cases K with
        | obj q => exact live q hK
        | box b => exact hK
        | fx r => exact hK
      refine ⟨γ, Sl, ⟨h.df, fun t => (h.tm t).move m1, fun v x hx => (h.ex v x hx).move m1, fun b cs hb' => ?_, fun q x hx => ?_, fun r x hr => h.fx r x hr, fun K k hK => h.mine K k (liveK K hK), fun K K' k h1 h2 => h.dj K K' k (liveK K h1) (liveK K' h2), h.s0, h.s1, h.sh, h.sc, h.kp, h.hB⟩, .c _ _ (.own _ o (ver + 1) ⟨ver + 1, e, xs ++ ys⟩ (by simp [applyM, upd_same]) (Nat.le_refl _) (ownsRow_slice hown') fun _ => rfl)⟩
      · obtain ⟨vs, e', c1, c2, c3, c5⟩ := h.bx b cs hb'
        exact ⟨vs, e', c1, c2, fun j y hj => (c3 j y hj).move m1, c5⟩
      · by_cases hq : q = o
        · subst hq
          simp only [applyM, upd_same, Option.some.injEq] at hx
          subst hx
          exact ⟨olds ++ news, ti, hte, by rw [hlen]; exact hown', fun i r j y hi hj => hRR.2 i r j y hi hj, fun k hk' => by rw [hk1] at hk'; cases hk'⟩
        · simp only [applyM, upd_other _ _ _ _ hq] at hx
          exact h.ob q x hx
  | room g c cap arr old _ hv hg hown' =>
    have hgo : (γ.o o).ownBlock = some g := by rw [hv]; rfl
    exact fin _ _ g rfl rfl rfl (by simp) (fun k _ hk' => setRow_other w g k _ (fun he' => hk' (by rw [he', hgo]))) hown' rfl (.inl hgo.symm) rfl (cells_same _ _ hown' hgo.symm)
  | grown _ cap arr hown' =>
    refine fin _ _ w.heap.size rfl rfl rfl (by simp) (fun k hk' _ => heap_alloc_old w.drew _ k hk') hown' rfl (.inr ⟨rfl, by simp, fun k hk' => heap_alloc_old w.drew _ k hk'⟩) rfl (fun g j u hg' _ hu => (cell_same (heap_alloc_old w.drew _ g (cell_block hu))).trans hu)
end
end Go.Ev
end
section
namespace Go.Ev
open Go.RowKit
variable {I : Nat → Type}
def fpKs (γ : Gam) (ks : List Key) : List Nat := ks.flatMap γ.fpK
theorem fpKs_append (γ : Gam) (a b : List Key) : fpKs γ (a ++ b) = fpKs γ a ++ fpKs γ b := by simp [fpKs]
theorem fpKs_cons (γ : Gam) (k : Key) (r : List Key) : fpKs γ (k :: r) = γ.fpK k ++ fpKs γ r := rfl
theorem fpKs_one (γ : Gam) (k : Key) : fpKs γ [k] = γ.fpK k := by simp [fpKs]
section
variable {P : Program} {E : Env I} {sp : Nat → List (AV I) → Tree (RV I)} {X : Nat → Prop} {B : Nat} {w0 : World} {Sl0 : Nat → Nat → Prop} {Ex : Value → AV I → Prop} {γ : Gam} {Sl Sl' : Nat → Nat → Prop} {s : AS I} {a : Act} {w w' : World} {bx : Nat → Option (List (CV I))} {ob : Nat → Option (Obj I)} {fx : Nat → Option (I 1000003)} {X0 : Nat → Prop} {B0 : Nat}
theorem getA {us : Array Value} {cs : List (CV I)} {R : Value → CV I → Prop} (h : ∀ i x, cs[i]? = some x → R (us.getD i undef) x) : ∀ i x, cs[i]? = some x → R (us.toList.getD i undef) x := fun i x hi => by
  simpa [Array.getD_eq_getD_getElem?, List.getD_eq_getElem?_getD] using h i x hi
theorem packO_rep (h : Con E X B w0 Sl0 Ex γ Sl s a w) (hob : ∀ o y, ob o = some y → s.objs o = some y) {v : Value} {o ver : Nat} (hv : CRep E Sl w X B γ s.boxes s.objs s.fxs v (.own o ver)) :
    PRep E Sl w X0 B0 v (packO ob o ver).1 (fpKs γ (packO ob o ver).2) [] := by
  have h1 := hv.one
  unfold packO
  split
  · rename_i x hx
    split
    · rename_i hver
      have hver := Nat.eq_of_beq_eq_true hver
      have hx' := hob o x hx
      cases hv with
      | own _ _ _ y hy hle _ hv =>
        rw [hx'] at hy
        injection hy with hy
        subst hy
        have e := hv hver
        subst e
        obtain ⟨vals, ti, k0, k1, k2, k3⟩ := h.ob o x hx'
        have := PRep.ow (E := E) (Sl := Sl) (w := w) (X0 := X0) (B0 := B0) (γ.o o) x.t x.xs vals ti k0 k1 k2 k3
        rw [fpKs_one]
        exact this
    · exact .d _ _ (.any _ h1)
  · exact .d _ _ (.any _ h1)
theorem packL_rep (h : Con E X B w0 Sl0 Ex γ Sl s a w) (hob : ∀ o y, ob o = some y → s.objs o = some y) : ∀ (xs : List (CV I)) (us : List Value), us.length = xs.length → (∀ i x, xs[i]? = some x → CRep E Sl w X B γ s.boxes s.objs s.fxs (us.getD i undef) x) →
    PReps E Sl w X0 B0 us (packL ob xs).1 (fpKs γ (packL ob xs).2) []
  | [], us, hl, _ => by
    have : us = [] := List.eq_nil_of_length_eq_zero (by simpa using hl)
    subst this
    exact .nil
  | x :: xs, us, hl, hf => by
    cases us with
    | nil => simp at hl
    | cons u us =>
      have r := packL_rep h hob xs us (by simpa using hl) (fun i y hi => by simpa using hf (i + 1) y (by simpa using hi))
      have r0 : CRep E Sl w X B γ s.boxes s.objs s.fxs u x := by simpa using hf 0 x (by simp)
      simp only [packL]
      generalize packL ob xs = q at r ⊢
      obtain ⟨ys, ks⟩ := q
      have any : PReps E Sl w X0 B0 (u :: us) (.d .any :: ys) (fpKs γ ks) [] := .cons u us _ _ [] _ [] _ (.d _ _ (.any _ r0.one)) r
      cases x with
      | d x => cases r0 with | d _ _ hd => exact .cons u us _ _ [] _ [] _ (.d _ _ hd) r
      | own o ver =>
        have r1 := packO_rep (X0 := X0) (B0 := B0) h hob r0
        simp only
        rw [fpKs_append]
        exact .cons u us _ _ _ _ [] _ r1 r
      | _ => exact any
theorem packQ_rep (h : Con E X B w0 Sl0 Ex γ Sl s a w) (hfx : ∀ r y, fx r = some y → s.fxs r = some y) :
    ∀ (xs : List (CV I)) (us : List Value), us.length = xs.length → (∀ i x, xs[i]? = some x → CRep E Sl w X B γ s.boxes s.objs s.fxs (us.getD i undef) x) → PReps E Sl w X0 B0 us (packQ fx xs).1 (fpKs γ (packQ fx xs).2.1) ((packQ fx xs).2.2.map γ.valK)
  | [], us, hl, _ => by
    have : us = [] := List.eq_nil_of_length_eq_zero (by simpa using hl)
    subst this
    exact .nil
  | x :: xs, us, hl, hf => by
    cases us with
    | nil => simp at hl
    | cons u us =>
      have r := packQ_rep h hfx xs us (by simpa using hl) (fun i y hi => by simpa using hf (i + 1) y (by simpa using hi))
      have r0 : CRep E Sl w X B γ s.boxes s.objs s.fxs u x := by simpa using hf 0 x (by simp)
      simp only [packQ]
      generalize packQ fx xs = q at r ⊢
      obtain ⟨ys, ks, qs⟩ := q
      have any : PReps E Sl w X0 B0 (u :: us) (.d .any :: ys) (fpKs γ ks) (qs.map γ.valK) := .cons u us _ _ [] _ [] _ (.d _ _ (.any _ r0.one)) r
      cases x with
      | d x => cases r0 with | d _ _ hd => exact .cons u us _ _ [] _ [] _ (.d _ _ hd) r
      | fx q =>
        simp only
        split
        · rename_i y hy
          cases r0 with
          | fx _ _ _ =>
            obtain ⟨k1, k2, _, k3⟩ := h.fx q y (hfx q y hy)
            have := PRep.fd (E := E) (Sl := Sl) (w := w) (X0 := X0) (B0 := B0) (γ.f q) y (γ.fp q) k1 k2 k3
            exact .cons _ us _ _ _ _ _ _ this r
        · exact any
      | _ => exact any
def RpOK (X : Nat → Prop) (B : Nat) (X0 : Nat → Prop) (B0 : Nat) : Prop := ∀ g, g < B → ¬ X g → g < B0 ∧ ¬ X0 g
mutual
theorem packC_rep (hE : EnvOK P E) (h : Con E X B w0 Sl0 Ex γ Sl s a w) (hbx : ∀ b cs, bx b = some cs → s.boxes b = some cs) (hob : ∀ o y, ob o = some y → s.objs o = some y) (hfx : ∀ r y, fx r = some y → s.fxs r = some y) (mv : Bool) (hrp : mv = false → RpOK X B X0 B0) (hbq : mv = false → ∀ b cs, bx b = some cs → cs.any isFxC = true → γ.b b < B0 ∧ ¬ X0 (γ.b b)) :
    ∀ (x : CV I) (v : Value), CRep E Sl w X B γ s.boxes s.objs s.fxs v x → PRep E Sl w X0 B0 v (packC bx ob fx mv x).1 (fpKs γ (packC bx ob fx mv x).2.1) ((packC bx ob fx mv x).2.2.map γ.valK)
  | .d x, v, hv => by cases hv with | d v x hd => exact .d v x hd
  | .own o ver, v, hv => by
    simp only [packC]
    cases mv with
    | true => exact packO_rep h hob hv
    | false => exact .d _ _ (settle_rep (ob' := ob) hob (h.objRep hE) hv)
  | .ptr b off, v, hv => by
    cases hv with
    | ptr b off hb =>
      simp only [packC]
      split
      · rename_i cs hcs
        obtain ⟨vs, e, c1, c2, c3, c5⟩ := h.bx b cs (hbx b cs hcs)
        split
        · rename_i hq
          rw [Bool.and_eq_true] at hq
          have hmv : mv = false := by cases mv <;> first | rfl | cases hq.1
          have r := packQ_rep (X0 := X0) (B0 := B0) h hfx cs vs.toList (by simpa using c2) (getA c3)
          have := PRep.rq (E := E) (Sl := Sl) (w := w) (X0 := X0) (B0 := B0) vs.toList (packQ fx cs).1 off (γ.b b) 0 _ _ (fun j y hj => ⟨by rw [Nat.zero_add, cell_of c1]; simpa using hj, .inl (hbq hmv b cs hcs hq.2)⟩) r
          rw [Nat.zero_add] at this
          exact this
        have r := packL_rep (X0 := X0) (B0 := B0) h hob cs vs.toList (by simpa using c2) (getA c3)
        have hlen : (packL ob cs).1.length = cs.length := by
          have aux : ∀ cs : List (CV I), (packL ob cs).1.length = cs.length := by
            intro cs
            induction cs with
            | nil => rfl
            | cons x xs ih =>
              simp only [packL]
              cases x <;> simp [ih]
          exact aux cs
        show PRep E Sl w X0 B0 _ (.io (packL ob cs).1 off) (fpKs γ (.box b :: (packL ob cs).2)) [γ.valK (.box b)]
        rw [fpKs_cons]
        exact .io (γ.b b) off vs e _ _ _ c1 (c2.trans hlen.symm) r c5
      · exact .d _ _ (.any _ rfl)
  | .rp cs off, v, hv => by
    simp only [packC]
    cases mv with
    | true => exact .d _ _ (.any _ hv.one)
    | false =>
      cases hv with
      | rp cs off g o hc =>
        refine .rp cs off g o fun j y hj => ?_
        obtain ⟨u, h1, h2, h3⟩ := hc j y hj
        exact ⟨u, h1, h2, h3.imp (fun hx => hrp rfl g hx.1 hx.2) id⟩
  | .rq cs off, v, hv => by
    simp only [packC]
    cases mv with
    | true => exact .d _ _ (.any _ hv.one)
    | false =>
      cases hv with
      | rq cs off g o vs hc h1 =>
        have r := packCs_rep hE h hbx hob hfx false hrp hbq cs ((List.range cs.length).map vs) (by simp) (fun i x hi => by
          have hlt := (List.getElem?_eq_some_iff.1 hi).1
          simpa [List.getD_eq_getElem?_getD, List.getElem?_map, List.getElem?_range, hlt] using h1 i x hi)
        refine .rq _ _ off g o _ _ (fun j y hj => ?_) r
        have hlt : j < cs.length := by
          have := (List.getElem?_eq_some_iff.1 hj).1
          simpa using this
        obtain ⟨k1, k2⟩ := hc j cs[j] (List.getElem?_eq_getElem hlt)
        have hy : vs j = y := by simpa [List.getElem?_map, List.getElem?_range, hlt] using hj
        rw [← hy]
        exact ⟨k1, k2.imp (fun hx => hrp rfl g hx.1 hx.2) id⟩
  | .clo f first caps, v, hv => by
    cases hv with
    | clo f fs cs first caps hf hc h1 h2 =>
      have r1 := packCs_rep hE h hbx hob hfx mv hrp hbq first fs.toList (by simpa using hf) (getA h1)
      have r2 := packCs_rep hE h hbx hob hfx mv hrp hbq caps cs.toList (by simpa using hc) (getA h2)
      show PRep E Sl w X0 B0 _ (.clo f (packCs bx ob fx mv first).1 (packCs bx ob fx mv caps).1) (fpKs γ ((packCs bx ob fx mv first).2.1 ++ (packCs bx ob fx mv caps).2.1)) (((packCs bx ob fx mv first).2.2 ++ (packCs bx ob fx mv caps).2.2).map γ.valK)
      rw [fpKs_append, List.map_append]
      exact .clo f fs cs _ _ _ _ _ _ r1 r2
  | .mth f m, v, hv => by
    cases hv with
    | mth f vs m hl h1 =>
      exact .mth f vs _ _ _ (packCs_rep hE h hbx hob hfx mv hrp hbq m vs.toList (by simpa using hl) (getA h1))
  | .fx r, v, hv => by
    have h1 := hv.one
    simp only [packC]
    split
    · rename_i x hx
      cases hv with
      | fx _ _ _ =>
        obtain ⟨k1, k2, _, k3⟩ := h.fx r x (hfx r x hx)
        have := PRep.fd (E := E) (Sl := Sl) (w := w) (X0 := X0) (B0 := B0) (γ.f r) x (γ.fp r) k1 k2 k3
        simp only [fpKs_one]
        exact this
    · exact .d _ _ (.any _ h1)
  | .ow t xs, v, hv => by cases hv
  | .io cs off, v, hv => by cases hv
  | .fd x, v, hv => by cases hv
theorem packCs_rep (hE : EnvOK P E) (h : Con E X B w0 Sl0 Ex γ Sl s a w) (hbx : ∀ b cs, bx b = some cs → s.boxes b = some cs) (hob : ∀ o y, ob o = some y → s.objs o = some y) (hfx : ∀ r y, fx r = some y → s.fxs r = some y) (mv : Bool) (hrp : mv = false → RpOK X B X0 B0) (hbq : mv = false → ∀ b cs, bx b = some cs → cs.any isFxC = true → γ.b b < B0 ∧ ¬ X0 (γ.b b)) :
    ∀ (xs : List (CV I)) (us : List Value), us.length = xs.length → (∀ i x, xs[i]? = some x → CRep E Sl w X B γ s.boxes s.objs s.fxs (us.getD i undef) x) →
      PReps E Sl w X0 B0 us (packCs bx ob fx mv xs).1 (fpKs γ (packCs bx ob fx mv xs).2.1) ((packCs bx ob fx mv xs).2.2.map γ.valK)
  | [], us, hl, _ => by
    have : us = [] := List.eq_nil_of_length_eq_zero (by simpa using hl)
    subst this
    exact .nil
  | x :: xs, us, hl, hf => by
    cases us with
    | nil => simp at hl
    | cons u us =>
      have r := packCs_rep hE h hbx hob hfx mv hrp hbq xs us (by simpa using hl) (fun i y hi => by simpa using hf (i + 1) y (by simpa using hi))
      have r0 := packC_rep hE h hbx hob hfx mv hrp hbq x u (by simpa using hf 0 x (by simp))
      simp only [packCs]
      rw [fpKs_append, List.map_append]
      exact .cons u us _ _ _ _ _ _ r0 r
end
mutual
theorem packA_rep (hE : EnvOK P E) (h : Con E X B w0 Sl0 Ex γ Sl s a w) (hbx : ∀ b cs, bx b = some cs → s.boxes b = some cs) (hob : ∀ o y, ob o = some y → s.objs o = some y) (hfx : ∀ r y, fx r = some y → s.fxs r = some y) (mv : Bool) (hrp : mv = false → RpOK X B X0 B0) (hbq : mv = false → ∀ b cs, bx b = some cs → cs.any isFxC = true → γ.b b < B0 ∧ ¬ X0 (γ.b b)) :
    ∀ (x : AV I) (v : Value), VRep E Sl w X B γ s.boxes s.objs s.fxs v x → ARep E Sl w X0 B0 v (packA bx ob fx mv x).1 (fpKs γ (packA bx ob fx mv x).2.1) ((packA bx ob fx mv x).2.2.map γ.valK)
  | .c x, v, hv => by cases hv with | c _ _ hc => exact .c _ _ _ _ (packC_rep hE h hbx hob hfx mv hrp hbq x v hc)
  | .agg xs, v, hv => by cases hv with | agg vs _ hl hc => exact .agg vs _ _ _ (packCs_rep hE h hbx hob hfx mv hrp hbq xs vs.toList (by simpa using hl) (getA hc))
  | .tup xs, v, hv => by
    cases hv with
    | tup vs _ hl hc => exact .tup vs _ _ _ (packAs_rep hE h hbx hob hfx mv hrp hbq xs vs.toList (by simpa using hl) (fun i x hi => by simpa [Array.getD_eq_getD_getElem?, List.getD_eq_getElem?_getD] using hc i x hi))
  | .any, v, hv => .any v
theorem packAs_rep (hE : EnvOK P E) (h : Con E X B w0 Sl0 Ex γ Sl s a w) (hbx : ∀ b cs, bx b = some cs → s.boxes b = some cs) (hob : ∀ o y, ob o = some y → s.objs o = some y) (hfx : ∀ r y, fx r = some y → s.fxs r = some y) (mv : Bool) (hrp : mv = false → RpOK X B X0 B0) (hbq : mv = false → ∀ b cs, bx b = some cs → cs.any isFxC = true → γ.b b < B0 ∧ ¬ X0 (γ.b b)) :
    ∀ (xs : List (AV I)) (us : List Value), us.length = xs.length → (∀ i x, xs[i]? = some x → VRep E Sl w X B γ s.boxes s.objs s.fxs (us.getD i undef) x) →
      AReps E Sl w X0 B0 us (packAs bx ob fx mv xs).1 (fpKs γ (packAs bx ob fx mv xs).2.1) ((packAs bx ob fx mv xs).2.2.map γ.valK)
  | [], us, hl, _ => by
    have : us = [] := List.eq_nil_of_length_eq_zero (by simpa using hl)
    subst this
    exact .nil
  | x :: xs, us, hl, hf => by
    cases us with
    | nil => simp at hl
    | cons u us =>
      have r := packAs_rep hE h hbx hob hfx mv hrp hbq xs us (by simpa using hl) (fun i y hi => by simpa using hf (i + 1) y (by simpa using hi))
      have r0 := packA_rep hE h hbx hob hfx mv hrp hbq x u (by simpa using hf 0 x (by simp))
      simp only [packAs]
      rw [fpKs_append, List.map_append]
      exact .cons u us _ _ _ _ _ _ r0 r
end
end
end Go.Ev
end
section
namespace Go.Ev
open Go.RowKit
variable {I : Nat → Type}
def keyM : MW I → Key
  | .box b _ => .box b
  | .obj o _ => .obj o
  | .fx r _ => .fx r
def nameK : Key → Nat
  | .box b => b
  | .obj o => o
  | .fx r => r
theorem applyM_append (ws ws' : List (MW I)) : ∀ s : AS I, applyM (ws ++ ws') s = applyM ws' (applyM ws s) := by
  induction ws with
  | nil => intro s; rfl
  | cons m ws ih => intro s; cases m <;> exact ih _
theorem live_apply : ∀ (ws : List (MW I)) (s : AS I) (K : Key), Live (applyM ws s).boxes (applyM ws s).objs (applyM ws s).fxs K → Live s.boxes s.objs s.fxs K ∨ K ∈ ws.map keyM
  | [], s, K, h => .inl h
  | m :: ws, s, K, h => by
    have step : ∀ s' : AS I, (Live s'.boxes s'.objs s'.fxs K → Live s.boxes s.objs s.fxs K ∨ K = keyM m) → Live (applyM ws s').boxes (applyM ws s').objs (applyM ws s').fxs K → Live s.boxes s.objs s.fxs K ∨ K ∈ (m :: ws).map keyM := by
      intro s' h1 h2
      rcases live_apply ws s' K h2 with h3 | h3
      · rcases h1 h3 with h4 | h4
        · exact .inl h4
        · exact .inr (by rw [h4]; simp)
      · exact .inr (List.mem_cons_of_mem _ h3)
    cases m with
    | box b cs =>
      refine step _ (fun h1 => ?_) h
      cases K with
      | box b' =>
        by_cases e : b' = b
        · right; rw [e]; rfl
        · left
          have h1 : upd s.boxes b (some cs) b' ≠ none := h1
          rw [upd_other _ _ _ _ e] at h1; exact h1
      | _ => exact .inl h1
    | obj b cs =>
      refine step _ (fun h1 => ?_) h
      cases K with
      | obj b' =>
        by_cases e : b' = b
        · right; rw [e]; rfl
        · left
          have h1 : upd s.objs b (some cs) b' ≠ none := h1
          rw [upd_other _ _ _ _ e] at h1; exact h1
      | _ => exact .inl h1
    | fx b cs =>
      refine step _ (fun h1 => ?_) h
      cases K with
      | fx b' =>
        by_cases e : b' = b
        · right; rw [e]; rfl
        · left
          have h1 : upd s.fxs b (some cs) b' ≠ none := h1
          rw [upd_other _ _ _ _ e] at h1; exact h1
      | _ => exact .inl h1
def InR (n m : Nat) (ws : List (MW I)) : Prop := n ≤ m ∧ ∀ q ∈ ws, n ≤ nameK (keyM q) ∧ nameK (keyM q) < m
theorem InR.append {n m k : Nat} {ws ws' : List (MW I)} (h : InR n m ws) (h' : InR m k ws') : InR n k (ws ++ ws') := by
  refine ⟨Nat.le_trans h.1 h'.1, fun q hq => ?_⟩
  rcases List.mem_append.1 hq with hq | hq
  · exact ⟨(h.2 q hq).1, Nat.lt_of_lt_of_le (h.2 q hq).2 h'.1⟩
  · exact ⟨Nat.le_trans h.1 (h'.2 q hq).1, (h'.2 q hq).2⟩
theorem InR.nil (n : Nat) : InR n n ([] : List (MW I)) := ⟨Nat.le_refl _, fun q hq => by cases hq⟩
mutual
theorem unC_range : ∀ (x : CV I) (n : Nat), InR n (unC n x).2.2 (unC n x).2.1
  | .ow t xs, n => ⟨Nat.le_succ n, fun q hq => by simp [unC] at hq; subst hq; exact ⟨Nat.le_refl _, Nat.lt_succ_self _⟩⟩
  | .fd x, n => ⟨Nat.le_succ n, fun q hq => by simp [unC] at hq; subst hq; exact ⟨Nat.le_refl _, Nat.lt_succ_self _⟩⟩
  | .io cs off, n => by
    have h := unCs_range cs (n + 1)
    simp only [unC]
    refine ⟨Nat.le_trans (Nat.le_succ n) h.1, fun q hq => ?_⟩
    rcases List.mem_append.1 hq with hq | hq
    · exact ⟨Nat.le_trans (Nat.le_succ n) (h.2 q hq).1, (h.2 q hq).2⟩
    · simp at hq; subst hq
      exact ⟨Nat.le_refl _, h.1⟩
  | .clo f a c, n => by
    simp only [unC]
    exact (unCs_range a n).append (unCs_range c _)
  | .mth f c, n => by
    simp only [unC]
    exact unCs_range c n
  | .d _, n => InR.nil n
  | .own _ _, n => InR.nil n
  | .ptr _ _, n => InR.nil n
  | .rp _ _, n => InR.nil n
  | .rq c _, n => by
    simp only [unC]
    exact unCs_range c n
  | .fx _, n => InR.nil n
theorem unCs_range : ∀ (xs : List (CV I)) (n : Nat), InR n (unCs n xs).2.2 (unCs n xs).2.1
  | [], n => InR.nil n
  | x :: xs, n => by
    simp only [unCs]
    exact (unC_range x n).append (unCs_range xs _)
end
mutual
theorem unA_range : ∀ (x : AV I) (n : Nat), InR n (unA n x).2.2 (unA n x).2.1
  | .c x, n => unC_range x n
  | .agg xs, n => unCs_range xs n
  | .tup xs, n => unAs_range xs n
  | .any, n => InR.nil n
theorem unAs_range : ∀ (xs : List (AV I)) (n : Nat), InR n (unAs n xs).2.2 (unAs n xs).2.1
  | [], n => InR.nil n
  | x :: xs, n => by
    simp only [unAs]
    exact (unA_range x n).append (unAs_range xs _)
end
theorem unCs_length : ∀ (xs : List (CV I)) (n : Nat), (unCs n xs).1.length = xs.length
  | [], n => rfl
  | x :: xs, n => by simp only [unCs, List.length_cons]; rw [unCs_length xs]
section
variable {P : Program} {E : Env I} {sp : Nat → List (AV I) → Tree (RV I)} {X : Nat → Prop} {B : Nat} {w0 : World} {Sl0 : Nat → Nat → Prop} {Ex : Value → AV I → Prop} {γ : Gam} {Sl Sl' : Nat → Nat → Prop} {s : AS I} {a : Act} {w w' : World} {X0 : Nat → Prop} {B0 : Nat}
structure Got (E : Env I) (X : Nat → Prop) (B : Nat) (w0 : World) (Sl0 : Nat → Nat → Prop) (Ex : Value → AV I → Prop) (γ : Gam) (Sl : Nat → Nat → Prop) (s : AS I) (a : Act) (w : World) (fp : List Nat) (γ' : Gam) (s' : AS I) : Prop where
  con : Con E X B w0 Sl0 Ex γ' Sl s' a w
  mv : Moves Sl Sl w w X B γ γ' s.boxes s'.boxes s.objs s'.objs s.fxs s'.fxs
  fp : ∀ K k, Live s'.boxes s'.objs s'.fxs K → k ∈ γ'.fpK K → (Live s.boxes s.objs s.fxs K ∧ k ∈ γ.fpK K) ∨ k ∈ fp
  b : ∀ K, Live s.boxes s.objs s.fxs K → γ'.valK K = γ.valK K
theorem Got.refl (h : Con E X B w0 Sl0 Ex γ Sl s a w) : Got E X B w0 Sl0 Ex γ Sl s a w [] γ s :=
  ⟨h, ⟨fun _ _ h => h, fun _ _ _ _ h => h, fun b hb => ⟨hb, rfl⟩, fun o x hx => ⟨x, hx, Nat.le_refl _, fun _ => rfl⟩, fun r hr => ⟨hr, rfl⟩⟩, fun K k h1 h2 => .inl ⟨h1, h2⟩, fun _ _ => rfl⟩
theorem Moves.trans {Sl0 Sl1 Sl2 : Nat → Nat → Prop} {w0 w1 w2 : World} {γ0 γ1 γ2 : Gam} {b0 b1 b2 : Nat → Option (List (CV I))} {o0 o1 o2 : Nat → Option (Obj I)} {f0 f1 f2 : Nat → Option (I 1000003)}
    (h : Moves Sl0 Sl1 w0 w1 X B γ0 γ1 b0 b1 o0 o1 f0 f1) (k : Moves Sl1 Sl2 w1 w2 X B γ1 γ2 b1 b2 o1 o2 f1 f2) : Moves Sl0 Sl2 w0 w2 X B γ0 γ2 b0 b2 o0 o2 f0 f2 :=
  ⟨fun g o hs => k.S g o (h.S g o hs), fun g o u hs hu => k.c g o u (hs.imp (h.S g o) id) (h.c g o u hs hu), fun b hb => ⟨(k.b b (h.b b hb).1).1, (k.b b (h.b b hb).1).2.trans (h.b b hb).2⟩,
   fun o x hx => by
    obtain ⟨y, h1, h2, h3⟩ := h.o o x hx
    obtain ⟨z, k1, k2, k3⟩ := k.o o y h1
    exact ⟨z, k1, Nat.le_trans h2 k2, fun he => (k3 (by omega)).trans (h3 (by omega))⟩,
   fun r hr => ⟨(k.f r (h.f r hr).1).1, (k.f r (h.f r hr).1).2.trans (h.f r hr).2⟩⟩
theorem live_mv {γ' : Gam} {s' : AS I} (m : Moves Sl Sl' w w' X B γ γ' s.boxes s'.boxes s.objs s'.objs s.fxs s'.fxs) {K : Key} (h : Live s.boxes s.objs s.fxs K) : Live s'.boxes s'.objs s'.fxs K := by
  cases K with
  | box b => exact (m.b b h).1
  | obj o =>
    cases hc : s.objs o with
    | none => exact absurd hc h
    | some x =>
      obtain ⟨y, h1, _⟩ := m.o o x hc
      show s'.objs o ≠ none
      rw [h1]; simp
  | fx r => exact (m.f r h).1
theorem Got.trans {fp fp' : List Nat} {γ' γ'' : Gam} {s' s'' : AS I} (h : Got E X B w0 Sl0 Ex γ Sl s a w fp γ' s') (k : Got E X B w0 Sl0 Ex γ' Sl s' a w fp' γ'' s'') : Got E X B w0 Sl0 Ex γ Sl s a w (fp ++ fp') γ'' s'' :=
  ⟨k.con, h.mv.trans k.mv, fun K q h1 h2 => by
    rcases k.fp K q h1 h2 with h3 | h3
    · rcases h.fp K q h3.1 h3.2 with h4 | h4
      · exact .inl h4
      · exact .inr (List.mem_append_left _ h4)
    · exact .inr (List.mem_append_right _ h3), fun K hK => (k.b K (live_mv h.mv hK)).trans (h.b K hK)⟩
def Fresh (s : AS I) (ws : List (MW I)) : Prop := ∀ m ∈ ws, ¬ Live s.boxes s.objs s.fxs (keyM m)
theorem Fresh.next {n m k : Nat} {ws ws' : List (MW I)} (h : Fresh s (ws ++ ws')) (h1 : InR n m ws) (h2 : InR m k ws') : Fresh (applyM ws s) ws' := by
  intro q hq hl
  rcases live_apply ws s _ hl with h3 | h3
  · exact h q (List.mem_append_right _ hq) h3
  · obtain ⟨p, hp, he⟩ := List.mem_map.1 h3
    have := (h1.2 p hp).2
    have := (h2.2 q hq).1
    rw [he] at *
    omega
mutual
theorem root_live : ∀ (x : CV I) (v : Value), CRep E Sl w X B γ s.boxes s.objs s.fxs v x → ∀ K ∈ rootC x, Live s.boxes s.objs s.fxs K
  | .ptr b off, v, h, K, hK => by
    simp [rootC] at hK; subst hK
    cases h with | ptr _ _ hb => exact hb
  | .fx r, v, h, K, hK => by
    simp [rootC] at hK; subst hK
    cases h with | fx _ hb _ => exact hb
  | .clo f p c, v, h, K, hK => by
    cases h with
    | clo _ fs cs _ _ hf hc h1 h2 =>
      simp only [rootC, List.mem_append] at hK
      rcases hK with hK | hK
      · exact roots_live p _ h1 K hK
      · exact roots_live c _ h2 K hK
  | .mth f c, v, h, K, hK => by
    cases h with
    | mth _ vs _ hl h1 => exact roots_live c _ h1 K hK
  | .d _, v, h, K, hK => by cases hK
  | .own _ _, v, h, K, hK => by cases hK
  | .rp _ _, v, h, K, hK => by cases hK
  | .rq c _, v, h, K, hK => by
    cases h with
    | rq _ _ _ _ vs _ h1 => exact roots_live c _ h1 K hK
  | .ow _ _, v, h, K, hK => by cases hK
  | .io _ _, v, h, K, hK => by cases hK
  | .fd _, v, h, K, hK => by cases hK
theorem roots_live : ∀ (xs : List (CV I)) (f : Nat → Value), (∀ i x, xs[i]? = some x → CRep E Sl w X B γ s.boxes s.objs s.fxs (f i) x) → ∀ K ∈ rootCs xs, Live s.boxes s.objs s.fxs K
  | [], f, h, K, hK => by cases hK
  | x :: xs, f, h, K, hK => by
    simp only [rootCs, List.mem_append] at hK
    rcases hK with hK | hK
    · exact root_live x (f 0) (h 0 x (by simp)) K hK
    · exact roots_live xs (fun i => f (i + 1)) (fun i y hi => h (i + 1) y (by simpa using hi)) K hK
end
theorem map_val {γ' : Gam} {ks : List Key} (h : ∀ K ∈ ks, γ'.valK K = γ.valK K) : ks.map γ'.valK = ks.map γ.valK := List.map_congr_left h
theorem hps_length : ∀ {us : List Value} {xs : List (CV I)} {fp : List Nat} {rs : List Value}, PReps E Sl w X0 B0 us xs fp rs → us.length = xs.length
  | _, [], _, _, h => by cases h with | nil => rfl
  | _, x :: xs, _, _, h => by
    cases h with
    | cons v vs _ _ p q r t h1 h2 => simp [hps_length h2]
mutual
theorem absorbC (hrp : RpOK X0 B0 X B) : ∀ (x : CV I) (n : Nat) (v : Value) (fp : List Nat) (rs : List Value) (γ : Gam) (s : AS I), Con E X B w0 Sl0 Ex γ Sl s a w → PRep E Sl w X0 B0 v x fp rs → fp.Nodup → (∀ k ∈ fp, B ≤ k ∨ X k) →
    (∀ K k, Live s.boxes s.objs s.fxs K → k ∈ fp → k ∉ γ.fpK K) → Fresh s (unC n x).2.1 →
    ∃ γ', Got E X B w0 Sl0 Ex γ Sl s a w fp γ' (applyM (unC n x).2.1 s) ∧ CRep E Sl w X B γ' (applyM (unC n x).2.1 s).boxes (applyM (unC n x).2.1 s).objs (applyM (unC n x).2.1 s).fxs v (unC n x).1 ∧ (rootC (unC n x).1).map γ'.valK = rs
  | .d x, n, v, fp, rs, γ, s, h, hp, hn, hb, hd, hf => by cases hp with | d _ _ hx => exact ⟨γ, Got.refl h, .d _ _ hx, rfl⟩
  | .rp cs off, n, v, fp, rs, γ, s, h, hp, hn, hb, hd, hf => by
    cases hp with
    | rp _ _ g o hc =>
      refine ⟨γ, Got.refl h, .rp cs off g o fun j y hj => ?_, rfl⟩
      obtain ⟨u, h1, h2, h3⟩ := hc j y hj
      exact ⟨u, h1, h2, h3.imp (fun hx => hrp g hx.1 hx.2) id⟩
  | .ow t xs, n, v, fp, rs, γ, s, h, hp, hn, hb, hd, hf => by
    cases hp with
    | ow _ _ _ vals ti ht hown hr hk =>
      have hnl : s.objs n = none := by
        have := hf (.obj n ⟨0, t, xs⟩) (by simp [unC])
        cases hq : s.objs n with
        | none => rfl
        | some y => exact absurd (by show s.objs n ≠ none; rw [hq]; simp) this
      obtain ⟨c1, m1⟩ := h.obj (nm := n) (x := ⟨0, t, xs⟩) (v := v) hnl ht hown hr (fun k hk' => ⟨hb k (by simp [hk']), hk k hk'⟩) (fun K k hK hk' => hd K k hK (by simp [hk']))
      refine ⟨_, ⟨c1, m1, fun K k hK hk' => ?_, fun K hK => ?_⟩, .own v n 0 ⟨0, t, xs⟩ (by simp [unC, applyM, upd_same]) (Nat.le_refl _) (ownsRow_slice hown) (fun _ => by simp [Gam.setO]), rfl⟩
      · by_cases e : K = .obj n
        · subst e
          right
          simpa [Gam.fpK, Gam.setO] using hk'
        · left
          cases K with
          | obj q =>
            have hq : q ≠ n := fun e' => e (by rw [e'])
            have hK : upd s.objs n (some ⟨0, t, xs⟩) q ≠ none := hK
            rw [upd_other _ _ _ _ hq] at hK
            exact ⟨hK, by simpa [Gam.fpK, Gam.setO, hq] using hk'⟩
          | box b => exact ⟨hK, hk'⟩
          | fx r => exact ⟨hK, hk'⟩
      · cases K with
        | obj q =>
          have hq : q ≠ n := fun e' => hK (by rw [e']; exact hnl)
          simp [Gam.valK, Gam.setO, hq]
        | box b => rfl
        | fx r => rfl
  | .fd x, n, v, fp, rs, γ, s, h, hp, hn, hb, hd, hf => by
    cases hp with
    | fd _ _ _ hx h1 hk =>
      have hnl : s.fxs n = none := by
        have := hf (.fx n x) (by simp [unC])
        cases hq : s.fxs n with
        | none => rfl
        | some y => exact absurd (by show s.fxs n ≠ none; rw [hq]; simp) this
      obtain ⟨c1, m1⟩ := h.thing (nm := n) (x := x) (v := v) (fp := fp) hnl hx h1 hn (fun k hk' => ⟨(hk k hk').1, (hk k hk').2, hb k hk'⟩) (fun K k hK hk' => hd K k hK hk')
      refine ⟨_, ⟨c1, m1, fun K k hK hk' => ?_, fun K hK => ?_⟩, ?_, by simp [rootC, unC, Gam.valK, Gam.setF]⟩
      · by_cases e : K = .fx n
        · subst e
          right
          simpa [Gam.fpK, Gam.setF] using hk'
        · left
          cases K with
          | fx q =>
            have hq : q ≠ n := fun e' => e (by rw [e'])
            have hK : upd s.fxs n (some x) q ≠ none := hK
            rw [upd_other _ _ _ _ hq] at hK
            exact ⟨hK, by simpa [Gam.fpK, Gam.setF, hq] using hk'⟩
          | box b => exact ⟨hK, hk'⟩
          | obj r => exact ⟨hK, hk'⟩
      · cases K with
        | fx q =>
          have hq : q ≠ n := fun e' => hK (by rw [e']; exact hnl)
          simp [Gam.valK, Gam.setF, hq]
        | box b => rfl
        | obj r => rfl
      · have e1 : (γ.setF n v fp).f n = v := by simp [Gam.setF]
        have := CRep.fx (E := E) (Sl := Sl) (w := w) (X := X) (B := B) (γ := γ.setF n v fp) (bx := s.boxes) (ob := s.objs) (fx := upd s.fxs n (some x)) n (by simp [upd_same]) (by rw [e1]; exact h1)
        rw [e1] at this
        exact this
  | .io cs off, n, v, fp, rs, γ, s, h, hp, hn, hb, hd, hf => by
    cases hp with
    | io g _ vs e _ p r hg hl hps hs =>
      have hrange := unCs_range cs (n + 1)
      have hun : (unC n (.io cs off : CV I)).2.1 = (unCs (n + 1) cs).2.1 ++ [.box n (unCs (n + 1) cs).1] := rfl
      rw [hun] at hf ⊢
      obtain ⟨γ1, g1, r1, _⟩ := absorbCs hrp cs (n + 1) vs.toList p r γ s h hps (List.nodup_cons.1 hn).2 (fun k hk => hb k (List.mem_cons_of_mem _ hk)) (fun K k hK hk => hd K k hK (List.mem_cons_of_mem _ hk)) (fun m hm => hf m (List.mem_append_left _ hm))
      have hnl : (applyM (unCs (n + 1) cs).2.1 s).boxes n = none := by
        cases hq : (applyM (unCs (n + 1) cs).2.1 s).boxes n with
        | none => rfl
        | some y =>
          exfalso
          rcases live_apply (unCs (n + 1) cs).2.1 s (.box n) (by show (applyM _ _).boxes n ≠ none; rw [hq]; simp) with h3 | h3
          · exact hf (.box n _) (List.mem_append_right _ (List.mem_cons_self)) h3
          · obtain ⟨p', hp', he⟩ := List.mem_map.1 h3
            have := (hrange.2 p' hp').1
            rw [he] at this
            simp [nameK] at this
            omega
      obtain ⟨c2, m2⟩ := g1.con.box (nm := n) (g := g) (cs := (unCs (n + 1) cs).1) (vs := vs) (e := e) hnl hg (by rw [unCs_length]; exact hl) (fun j y hj => by simpa [Array.getD_eq_getD_getElem?, List.getD_eq_getElem?_getD] using r1 j y hj) (hb g List.mem_cons_self) hs (fun K hK hk => by
        rcases g1.fp K g hK hk with h3 | h3
        · exact hd K g h3.1 List.mem_cons_self h3.2
        · exact (List.nodup_cons.1 hn).1 h3)
      rw [applyM_append]
      have g2 : Got E X B w0 Sl0 Ex γ1 Sl (applyM (unCs (n + 1) cs).2.1 s) a w [g] (γ1.setB n g) (applyM [.box n (unCs (n + 1) cs).1] (applyM (unCs (n + 1) cs).2.1 s)) := by
        refine ⟨c2, m2, fun K k hK hk' => ?_, fun K hK => ?_⟩
        · by_cases e : K = .box n
          · subst e
            right
            simpa [Gam.fpK, Gam.setB] using hk'
          · left
            cases K with
            | box q =>
              have hq : q ≠ n := fun e' => e (by rw [e'])
              have hK : upd (applyM (unCs (n + 1) cs).2.1 s).boxes n (some (unCs (n + 1) cs).1) q ≠ none := hK
              rw [upd_other _ _ _ _ hq] at hK
              exact ⟨hK, by simpa [Gam.fpK, Gam.setB, hq] using hk'⟩
            | fx b => exact ⟨hK, hk'⟩
            | obj r => exact ⟨hK, hk'⟩
        · cases K with
          | box q =>
            have hq : q ≠ n := fun e' => hK (by rw [e']; exact hnl)
            simp [Gam.valK, Gam.setB, hq]
          | fx b => rfl
          | obj r => rfl
      have g3 := g1.trans g2
      refine ⟨_, ⟨g3.con, g3.mv, fun K k h1 h2 => (g3.fp K k h1 h2).imp id fun h3 => ?_, g3.b⟩, ?_, ?_⟩
      · rcases List.mem_append.1 h3 with h3 | h3
        · exact List.mem_cons_of_mem _ h3
        · rw [List.mem_singleton] at h3; rw [h3]; exact List.mem_cons_self
      · have e1 : (γ1.setB n g).b n = g := by simp [Gam.setB]
        have := CRep.ptr (E := E) (Sl := Sl) (w := w) (X := X) (B := B) (γ := γ1.setB n g) (bx := (applyM [.box n (unCs (n + 1) cs).1] (applyM (unCs (n + 1) cs).2.1 s)).boxes) (ob := (applyM [.box n (unCs (n + 1) cs).1] (applyM (unCs (n + 1) cs).2.1 s)).objs) (fx := (applyM [.box n (unCs (n + 1) cs).1] (applyM (unCs (n + 1) cs).2.1 s)).fxs) n off (by simp [applyM, upd_same])
        rw [e1] at this
        exact this
      · simp [rootC, unC, Gam.valK, Gam.setB]
  | .clo f p c, n, v, fp, rs, γ, s, h, hp, hn, hb, hd, hf => by
    cases hp with
    | clo _ fs cs _ _ p1 p2 r1 r2 h1 h2 =>
      have hun : (unC n (.clo f p c : CV I)).2.1 = (unCs n p).2.1 ++ (unCs (unCs n p).2.2 c).2.1 := rfl
      have hval : (unC n (.clo f p c : CV I)).1 = .clo f (unCs n p).1 (unCs (unCs n p).2.2 c).1 := rfl
      rw [hun] at hf ⊢
      rw [hval]
      obtain ⟨n1, n2, n3⟩ := List.nodup_append.1 hn
      obtain ⟨γ1, g1, q1, t1⟩ := absorbCs hrp p n fs.toList p1 r1 γ s h h1 n1 (fun k hk => hb k (List.mem_append_left _ hk)) (fun K k hK hk => hd K k hK (List.mem_append_left _ hk)) (fun m hm => hf m (List.mem_append_left _ hm))
      obtain ⟨γ2, g2, q2, t2⟩ := absorbCs hrp c (unCs n p).2.2 cs.toList p2 r2 γ1 _ g1.con h2 n2 (fun k hk => hb k (List.mem_append_right _ hk)) (fun K k hK hk hk' => by
        rcases g1.fp K k hK hk' with h3 | h3
        · exact hd K k h3.1 (List.mem_append_right _ hk) h3.2
        · exact n3 k h3 k hk rfl) (hf.next (unCs_range p n) (unCs_range c _))
      rw [applyM_append]
      refine ⟨γ2, g1.trans g2, .clo f fs cs _ _ ?_ ?_ (fun i x hi => ?_) (fun i x hi => ?_), ?_⟩
      · have := hps_length h1; rw [unCs_length]; simpa using this
      · have := hps_length h2; rw [unCs_length]; simpa using this
      · have := (q1 i x hi).move g2.mv
        simpa [Array.getD_eq_getD_getElem?, List.getD_eq_getElem?_getD] using this
      · have := q2 i x hi
        simpa [Array.getD_eq_getD_getElem?, List.getD_eq_getElem?_getD] using this
      · simp only [rootC, List.map_append]
        rw [t2, map_val (fun K hK => g2.b K (roots_live _ _ q1 K hK)), t1]
  | .mth f c, n, v, fp, rs, γ, s, h, hp, hn, hb, hd, hf => by
    cases hp with
    | mth _ vs _ _ _ h1 =>
      obtain ⟨γ1, g1, q1, t1⟩ := absorbCs hrp c n vs.toList fp rs γ s h h1 hn hb hd hf
      refine ⟨γ1, g1, .mth f vs _ ?_ (fun i x hi => ?_), t1⟩
      · have := hps_length h1; rw [unCs_length]; simpa using this
      · have := q1 i x hi
        rw [show vs.getD i undef = vs.toList.getD i undef by simp [Array.getD_eq_getD_getElem?, List.getD_eq_getElem?_getD]]
        exact this
  | .rq c off, n, v, fp, rs, γ, s, h, hp, hn, hb, hd, hf => by
    cases hp with
    | rq us _ _ g o _ _ hc h1 =>
      obtain ⟨γ1, g1, q1, t1⟩ := absorbCs hrp c n us fp rs γ s h h1 hn hb hd hf
      refine ⟨γ1, g1, .rq _ off g o (fun i => us.getD i undef) (fun j y hj => ?_) q1, t1⟩
      have hlt : j < us.length := by
        have := (List.getElem?_eq_some_iff.1 hj).1
        rw [unCs_length] at this
        rw [hps_length h1]; exact this
      obtain ⟨k1, k2⟩ := hc j us[j] (List.getElem?_eq_getElem hlt)
      exact ⟨by rw [k1]; simp [List.getD_eq_getElem?_getD, hlt], k2.imp (fun hx => hrp g hx.1 hx.2) id⟩
  | .own _ _, n, v, fp, rs, γ, s, h, hp, hn, hb, hd, hf => by cases hp
  | .ptr _ _, n, v, fp, rs, γ, s, h, hp, hn, hb, hd, hf => by cases hp
  | .fx _, n, v, fp, rs, γ, s, h, hp, hn, hb, hd, hf => by cases hp
theorem absorbCs (hrp : RpOK X0 B0 X B) : ∀ (xs : List (CV I)) (n : Nat) (us : List Value) (fp : List Nat) (rs : List Value) (γ : Gam) (s : AS I), Con E X B w0 Sl0 Ex γ Sl s a w → PReps E Sl w X0 B0 us xs fp rs → fp.Nodup → (∀ k ∈ fp, B ≤ k ∨ X k) →
    (∀ K k, Live s.boxes s.objs s.fxs K → k ∈ fp → k ∉ γ.fpK K) → Fresh s (unCs n xs).2.1 →
    ∃ γ', Got E X B w0 Sl0 Ex γ Sl s a w fp γ' (applyM (unCs n xs).2.1 s) ∧ (∀ i x, (unCs n xs).1[i]? = some x → CRep E Sl w X B γ' (applyM (unCs n xs).2.1 s).boxes (applyM (unCs n xs).2.1 s).objs (applyM (unCs n xs).2.1 s).fxs (us.getD i undef) x) ∧ (rootCs (unCs n xs).1).map γ'.valK = rs
  | [], n, us, fp, rs, γ, s, h, hp, hn, hb, hd, hf => by
    cases hp with
    | nil => exact ⟨γ, Got.refl h, fun i x hi => by simp [unCs] at hi, rfl⟩
  | x :: xs, n, us, fp, rs, γ, s, h, hp, hn, hb, hd, hf => by
    cases hp with
    | cons v us _ _ p1 p2 r1 r2 h1 h2 =>
      have hun : (unCs n (x :: xs)).2.1 = (unC n x).2.1 ++ (unCs (unC n x).2.2 xs).2.1 := rfl
      have hval : (unCs n (x :: xs)).1 = (unC n x).1 :: (unCs (unC n x).2.2 xs).1 := rfl
      rw [hun] at hf ⊢
      rw [hval]
      obtain ⟨n1, n2, n3⟩ := List.nodup_append.1 hn
      obtain ⟨γ1, g1, q1, t1⟩ := absorbC hrp x n v p1 r1 γ s h h1 n1 (fun k hk => hb k (List.mem_append_left _ hk)) (fun K k hK hk => hd K k hK (List.mem_append_left _ hk)) (fun m hm => hf m (List.mem_append_left _ hm))
      obtain ⟨γ2, g2, q2, t2⟩ := absorbCs hrp xs (unC n x).2.2 us p2 r2 γ1 _ g1.con h2 n2 (fun k hk => hb k (List.mem_append_right _ hk)) (fun K k hK hk hk' => by
        rcases g1.fp K k hK hk' with h3 | h3
        · exact hd K k h3.1 (List.mem_append_right _ hk) h3.2
        · exact n3 k h3 k hk rfl) (hf.next (unC_range x n) (unCs_range xs _))
      rw [applyM_append]
      refine ⟨γ2, g1.trans g2, fun i y hi => ?_, ?_⟩
      · cases i with
        | zero =>
          simp at hi; subst hi
          simpa using q1.move g2.mv
        | succ i =>
          simp at hi
          simpa using q2 i y hi
      · simp only [rootCs, List.map_append]
        rw [t2, map_val (fun K hK => g2.b K (root_live _ _ q1 K hK)), t1]
end
theorem ar_length : ∀ {us : List Value} {xs : List (AV I)} {fp : List Nat} {rs : List Value}, AReps E Sl w X0 B0 us xs fp rs → us.length = xs.length
  | _, [], _, _, h => by cases h with | nil => rfl
  | _, x :: xs, _, _, h => by
    cases h with
    | cons v vs _ _ p q r t h1 h2 => simp [ar_length h2]
mutual
theorem rootA_live : ∀ (x : AV I) (v : Value), VRep E Sl w X B γ s.boxes s.objs s.fxs v x → ∀ K ∈ rootA x, Live s.boxes s.objs s.fxs K
  | .c x, v, h, K, hK => by cases h with | c _ _ hc => exact root_live x v hc K hK
  | .agg xs, v, h, K, hK => by cases h with | agg vs _ hl hc => exact roots_live xs _ hc K hK
  | .tup xs, v, h, K, hK => by cases h with | tup vs _ hl hc => exact rootAs_live xs _ hc K hK
  | .any, v, h, K, hK => by cases hK
theorem rootAs_live : ∀ (xs : List (AV I)) (f : Nat → Value), (∀ i x, xs[i]? = some x → VRep E Sl w X B γ s.boxes s.objs s.fxs (f i) x) → ∀ K ∈ rootAs xs, Live s.boxes s.objs s.fxs K
  | [], f, h, K, hK => by cases hK
  | x :: xs, f, h, K, hK => by
    simp only [rootAs, List.mem_append] at hK
    rcases hK with hK | hK
    · exact rootA_live x (f 0) (h 0 x (by simp)) K hK
    · exact rootAs_live xs (fun i => f (i + 1)) (fun i y hi => h (i + 1) y (by simpa using hi)) K hK
end
theorem unAs_length : ∀ (xs : List (AV I)) (n : Nat), (unAs n xs).1.length = xs.length
  | [], n => rfl
  | x :: xs, n => by simp only [unAs, List.length_cons]; rw [unAs_length xs]
mutual
theorem absorbA (hrp : RpOK X0 B0 X B) : ∀ (x : AV I) (n : Nat) (v : Value) (fp : List Nat) (rs : List Value) (γ : Gam) (s : AS I), Con E X B w0 Sl0 Ex γ Sl s a w → ARep E Sl w X0 B0 v x fp rs → fp.Nodup → (∀ k ∈ fp, B ≤ k ∨ X k) →
    (∀ K k, Live s.boxes s.objs s.fxs K → k ∈ fp → k ∉ γ.fpK K) → Fresh s (unA n x).2.1 →
    ∃ γ', Got E X B w0 Sl0 Ex γ Sl s a w fp γ' (applyM (unA n x).2.1 s) ∧ VRep E Sl w X B γ' (applyM (unA n x).2.1 s).boxes (applyM (unA n x).2.1 s).objs (applyM (unA n x).2.1 s).fxs v (unA n x).1 ∧ (rootA (unA n x).1).map γ'.valK = rs
  | .c x, n, v, fp, rs, γ, s, h, hp, hn, hb, hd, hf => by
    cases hp with
    | c _ _ _ _ hp =>
      obtain ⟨γ1, g1, q1, t1⟩ := absorbC hrp x n v fp rs γ s h hp hn hb hd hf
      exact ⟨γ1, g1, .c _ _ q1, t1⟩
  | .agg xs, n, v, fp, rs, γ, s, h, hp, hn, hb, hd, hf => by
    cases hp with
    | agg vs _ _ _ hp =>
      obtain ⟨γ1, g1, q1, t1⟩ := absorbCs hrp xs n vs.toList fp rs γ s h hp hn hb hd hf
      refine ⟨γ1, g1, .agg vs _ ?_ (fun i x hi => ?_), t1⟩
      · have := hps_length hp; rw [unCs_length]; simpa using this
      · have := q1 i x hi
        rw [show vs.getD i undef = vs.toList.getD i undef by simp [Array.getD_eq_getD_getElem?, List.getD_eq_getElem?_getD]]
        exact this
  | .tup xs, n, v, fp, rs, γ, s, h, hp, hn, hb, hd, hf => by
    cases hp with
    | tup vs _ _ _ hp =>
      obtain ⟨γ1, g1, q1, t1⟩ := absorbAs hrp xs n vs.toList fp rs γ s h hp hn hb hd hf
      refine ⟨γ1, g1, .tup vs _ ?_ (fun i x hi => ?_), t1⟩
      · have := ar_length hp; rw [unAs_length]; simpa using this
      · have := q1 i x hi
        rw [show vs.getD i undef = vs.toList.getD i undef by simp [Array.getD_eq_getD_getElem?, List.getD_eq_getElem?_getD]]
        exact this
  | .any, n, v, fp, rs, γ, s, h, hp, hn, hb, hd, hf => by
    cases hp with
    | any => exact ⟨γ, Got.refl h, .any _, rfl⟩
theorem absorbAs (hrp : RpOK X0 B0 X B) : ∀ (xs : List (AV I)) (n : Nat) (us : List Value) (fp : List Nat) (rs : List Value) (γ : Gam) (s : AS I), Con E X B w0 Sl0 Ex γ Sl s a w → AReps E Sl w X0 B0 us xs fp rs → fp.Nodup → (∀ k ∈ fp, B ≤ k ∨ X k) →
    (∀ K k, Live s.boxes s.objs s.fxs K → k ∈ fp → k ∉ γ.fpK K) → Fresh s (unAs n xs).2.1 →
    ∃ γ', Got E X B w0 Sl0 Ex γ Sl s a w fp γ' (applyM (unAs n xs).2.1 s) ∧ (∀ i x, (unAs n xs).1[i]? = some x → VRep E Sl w X B γ' (applyM (unAs n xs).2.1 s).boxes (applyM (unAs n xs).2.1 s).objs (applyM (unAs n xs).2.1 s).fxs (us.getD i undef) x) ∧ (rootAs (unAs n xs).1).map γ'.valK = rs
  | [], n, us, fp, rs, γ, s, h, hp, hn, hb, hd, hf => by
    cases hp with
    | nil => exact ⟨γ, Got.refl h, fun i x hi => by simp [unAs] at hi, rfl⟩
  | x :: xs, n, us, fp, rs, γ, s, h, hp, hn, hb, hd, hf => by
    cases hp with
    | cons v us _ _ p1 p2 r1 r2 h1 h2 =>
      have hun : (unAs n (x :: xs)).2.1 = (unA n x).2.1 ++ (unAs (unA n x).2.2 xs).2.1 := rfl
      have hval : (unAs n (x :: xs)).1 = (unA n x).1 :: (unAs (unA n x).2.2 xs).1 := rfl
      rw [hun] at hf ⊢
      rw [hval]
      obtain ⟨n1, n2, n3⟩ := List.nodup_append.1 hn
      obtain ⟨γ1, g1, q1, t1⟩ := absorbA hrp x n v p1 r1 γ s h h1 n1 (fun k hk => hb k (List.mem_append_left _ hk)) (fun K k hK hk => hd K k hK (List.mem_append_left _ hk)) (fun m hm => hf m (List.mem_append_left _ hm))
      obtain ⟨γ2, g2, q2, t2⟩ := absorbAs hrp xs (unA n x).2.2 us p2 r2 γ1 _ g1.con h2 n2 (fun k hk => hb k (List.mem_append_right _ hk)) (fun K k hK hk hk' => by
        rcases g1.fp K k hK hk' with h3 | h3
        · exact hd K k h3.1 (List.mem_append_right _ hk) h3.2
        · exact n3 k h3 k hk rfl) (hf.next (unA_range x n) (unAs_range xs _))
      rw [applyM_append]
      refine ⟨γ2, g1.trans g2, fun i y hi => ?_, ?_⟩
      · cases i with
        | zero =>
          simp at hi; subst hi
          simpa using q1.move g2.mv
        | succ i =>
          simp at hi
          simpa using q2 i y hi
      · simp only [rootAs, List.map_append]
        rw [t2, map_val (fun K hK => g2.b K (rootA_live _ _ q1 K hK)), t1]
end
end
end Go.Ev
end
section
namespace Go.Ev
open Go.RowKit
variable {I : Nat → Type}
theorem beq_key {k x : Key} (h : k.beq x = false) : k ≠ x := by
  rintro rfl
  cases k <;> simp [Key.beq] at h
section
variable {P : Program} {E : Env I} {sp : Nat → List (AV I) → Tree (RV I)} {X : Nat → Prop} {B : Nat} {w0 : World} {Sl0 : Nat → Nat → Prop} {Ex : Value → AV I → Prop} {γ : Gam} {Sl Sl' : Nat → Nat → Prop} {s : AS I} {a : Act} {w w' : World} {bx : Nat → Option (List (CV I))} {ob : Nat → Option (Obj I)} {fx : Nat → Option (I 1000003)} {X0 : Nat → Prop} {B0 : Nat}
theorem Con.nodupK (h : Con E X B w0 Sl0 Ex γ Sl s a w) {K : Key} (hK : Live s.boxes s.objs s.fxs K) : (γ.fpK K).Nodup := by
  cases K with
  | box b => simp [Gam.fpK]
  | obj o => cases hq : (γ.o o).ownBlock <;> simp [Gam.fpK, hq]
  | fx r =>
    cases hc : s.fxs r with
    | none => exact absurd hc hK
    | some x => exact (h.fx r x hc).2.2.1
theorem apart_cons {k : Key} {r : List Key} (h : apartK (k :: r) = true) : (∀ x ∈ r, k ≠ x) ∧ apartK r = true := by
  simp only [apartK, Bool.and_eq_true, List.all_eq_true] at h
  exact ⟨fun x hx => beq_key (by simpa using h.1 x hx), h.2⟩
theorem Con.nodupKs (h : Con E X B w0 Sl0 Ex γ Sl s a w) : ∀ (ks : List Key), (∀ K ∈ ks, Live s.boxes s.objs s.fxs K) → apartK ks = true → (fpKs γ ks).Nodup
  | [], _, _ => List.nodup_nil
  | k :: r, hl, ha => by
    obtain ⟨h1, h2⟩ := apart_cons ha
    rw [fpKs_cons, List.nodup_append]
    refine ⟨h.nodupK (hl k List.mem_cons_self), h.nodupKs r (fun K hK => hl K (List.mem_cons_of_mem _ hK)) h2, fun x hx y hy he => ?_⟩
    subst he
    simp only [fpKs, List.mem_flatMap] at hy
    obtain ⟨K, hK, hk⟩ := hy
    exact h1 K hK (h.dj k K x (hl k List.mem_cons_self) (hl K (List.mem_cons_of_mem _ hK)) hx hk)
theorem mem_fpKs {k : Nat} {ks : List Key} : k ∈ fpKs γ ks ↔ ∃ K ∈ ks, k ∈ γ.fpK K := by simp [fpKs]
theorem packO_live (hob : ∀ o y, ob o = some y → s.objs o = some y) {o ver : Nat} : ∀ K ∈ (packO ob o ver).2, Live s.boxes s.objs s.fxs K := by
  intro K hK
  unfold packO at hK
  split at hK
  · rename_i x hx
    split at hK
    · simp at hK; subst hK
      show s.objs o ≠ none
      rw [hob o x hx]; simp
    · cases hK
  · cases hK
theorem packL_live (hob : ∀ o y, ob o = some y → s.objs o = some y) : ∀ (xs : List (CV I)), ∀ K ∈ (packL ob xs).2, Live s.boxes s.objs s.fxs K
  | [], K, hK => by cases hK
  | x :: xs, K, hK => by
    have ih := packL_live hob xs
    simp only [packL] at hK
    cases x with
    | own o v =>
      rcases List.mem_append.1 hK with hK | hK
      · exact packO_live hob K hK
      · exact ih K hK
    | _ => exact ih K hK
theorem packQ_live (hfx : ∀ r y, fx r = some y → s.fxs r = some y) : ∀ (xs : List (CV I)), (∀ K ∈ (packQ fx xs).2.1, Live s.boxes s.objs s.fxs K) ∧ ∀ K ∈ (packQ fx xs).2.2, K ∈ (packQ fx xs).2.1 ∧ ∀ o, K ≠ .obj o
  | [] => ⟨fun K hK => (by cases hK), fun K hK => (by cases hK)⟩
  | x :: xs => by
    have ih := packQ_live hfx xs
    simp only [packQ]
    generalize packQ fx xs = q at ih ⊢
    obtain ⟨ys, ks, qs⟩ := q
    cases x with
    | fx r =>
      simp only
      split
      · rename_i y hy
        have hl : Live s.boxes s.objs s.fxs (.fx r) := by show s.fxs r ≠ none; rw [hfx r y hy]; simp
        refine ⟨fun K hK => ?_, fun K hK => ?_⟩
        · rcases List.mem_cons.1 hK with hK | hK
          · rw [hK]; exact hl
          · exact ih.1 K hK
        · rcases List.mem_cons.1 hK with hK | hK
          · rw [hK]; exact ⟨List.mem_cons_self, fun o h => by cases h⟩
          · exact ⟨List.mem_cons_of_mem _ (ih.2 K hK).1, (ih.2 K hK).2⟩
      · exact ih
    | _ => exact ih
theorem packL_nofx : ∀ (xs : List (CV I)) (b : Nat), Key.box b ∉ (packL ob xs).2
  | [], b => by intro h; cases h
  | x :: xs, b => by
    have ih := packL_nofx xs b
    simp only [packL]
    generalize packL ob xs = q at ih ⊢
    obtain ⟨ys, ks⟩ := q
    cases x with
    | own o v =>
      simp only [packO]
      split
      · split
        · intro h; rcases List.mem_append.1 h with h | h
          · simp at h
          · exact ih h
        · exact ih
      · exact ih
    | _ => exact ih
theorem packQ_nofx : ∀ (xs : List (CV I)) (b : Nat), Key.box b ∉ (packQ fx xs).2.1
  | [], b => by intro h; cases h
  | x :: xs, b => by
    have ih := packQ_nofx xs b
    simp only [packQ]
    generalize packQ fx xs = q at ih ⊢
    obtain ⟨ys, ks, qs⟩ := q
    cases x with
    | fx r =>
      simp only
      split
      · intro h; rcases List.mem_cons.1 h with h | h
        · cases h
        · exact ih h
      · exact ih
    | _ => exact ih
mutual
theorem packC_nofx : ∀ (x : CV I) (b : Nat), Key.box b ∈ (packC bx ob fx false x).2.1 → ∃ cs, bx b = some cs ∧ cs.any isFxC = false
  | .d x, b, h => by cases h
  | .own o ver, b, h => by simp only [packC] at h; cases h
  | .ptr q off, b, h => by
    simp only [packC] at h
    split at h
    · rename_i cs hcs
      split at h
      · exact absurd h (packQ_nofx cs b)
      · rename_i hq
        rcases List.mem_cons.1 h with h | h
        · injection h with h; subst h; exact ⟨cs, hcs, by simpa using hq⟩
        · exact absurd h (packL_nofx cs b)
    · cases h
  | .rp cs off, b, h => by simp only [packC] at h; cases h
  | .rq cs off, b, h => packCs_nofx cs b h
  | .clo f p c, b, h => by
    simp only [packC] at h
    rcases List.mem_append.1 h with h | h
    · exact packCs_nofx p b h
    · exact packCs_nofx c b h
  | .mth f m, b, h => packCs_nofx m b h
  | .fx r, b, h => by
    simp only [packC] at h
    split at h
    · simp at h
    · cases h
  | .ow _ _, b, h => by cases h
  | .io _ _, b, h => by cases h
  | .fd _, b, h => by cases h
theorem packCs_nofx : ∀ (xs : List (CV I)) (b : Nat), Key.box b ∈ (packCs bx ob fx false xs).2.1 → ∃ cs, bx b = some cs ∧ cs.any isFxC = false
  | [], b, h => by cases h
  | x :: xs, b, h => by
    simp only [packCs] at h
    rcases List.mem_append.1 h with h | h
    · exact packC_nofx x b h
    · exact packCs_nofx xs b h
end
mutual
theorem packA_nofx : ∀ (x : AV I) (b : Nat), Key.box b ∈ (packA bx ob fx false x).2.1 → ∃ cs, bx b = some cs ∧ cs.any isFxC = false
  | .c x, b, h => packC_nofx x b h
  | .agg xs, b, h => packCs_nofx xs b h
  | .tup xs, b, h => packAs_nofx xs b h
  | .any, b, h => by cases h
theorem packAs_nofx : ∀ (xs : List (AV I)) (b : Nat), Key.box b ∈ (packAs bx ob fx false xs).2.1 → ∃ cs, bx b = some cs ∧ cs.any isFxC = false
  | [], b, h => by cases h
  | x :: xs, b, h => by
    simp only [packAs] at h
    rcases List.mem_append.1 h with h | h
    · exact packA_nofx x b h
    · exact packAs_nofx xs b h
end
mutual
theorem packC_live (hbx : ∀ b cs, bx b = some cs → s.boxes b = some cs) (hob : ∀ o y, ob o = some y → s.objs o = some y) (hfx : ∀ r y, fx r = some y → s.fxs r = some y) (mv : Bool) :
    ∀ (x : CV I), (∀ K ∈ (packC bx ob fx mv x).2.1, Live s.boxes s.objs s.fxs K) ∧ ∀ K ∈ (packC bx ob fx mv x).2.2, K ∈ (packC bx ob fx mv x).2.1 ∧ ∀ o, K ≠ .obj o
  | .d x => ⟨fun K hK => (by cases hK), fun K hK => (by cases hK)⟩
  | .own o ver => by
    simp only [packC]
    cases mv with
    | true => exact ⟨packO_live hob, fun K hK => (by cases hK)⟩
    | false => exact ⟨fun K hK => (by cases hK), fun K hK => (by cases hK)⟩
  | .ptr b off => by
    simp only [packC]
    split
    · rename_i cs hcs
      have hl : Live s.boxes s.objs s.fxs (.box b) := by show s.boxes b ≠ none; rw [hbx b cs hcs]; simp
      split
      · exact packQ_live hfx cs
      refine ⟨fun K hK => ?_, fun K hK => ?_⟩
      · rcases List.mem_cons.1 hK with hK | hK
        · rw [hK]; exact hl
        · exact packL_live hob cs K hK
      · have hK : K ∈ ([.box b] : List Key) := hK
        rw [List.mem_singleton] at hK
        subst hK
        exact ⟨List.mem_cons_self, fun o h => by cases h⟩
    · exact ⟨fun K hK => (by cases hK), fun K hK => (by cases hK)⟩
  | .rp cs off => by
    simp only [packC]
    cases mv <;> exact ⟨fun K hK => (by cases hK), fun K hK => (by cases hK)⟩
  | .rq cs off => by
    simp only [packC]
    cases mv with
    | true => exact ⟨fun K hK => (by cases hK), fun K hK => (by cases hK)⟩
    | false => exact packCs_live hbx hob hfx false cs
  | .clo f p c => by
    obtain ⟨h1, h2⟩ := packCs_live hbx hob hfx mv p
    obtain ⟨h3, h4⟩ := packCs_live hbx hob hfx mv c
    simp only [packC]
    refine ⟨fun K hK => ?_, fun K hK => ?_⟩
    · rcases List.mem_append.1 hK with hK | hK
      · exact h1 K hK
      · exact h3 K hK
    · rcases List.mem_append.1 hK with hK | hK
      · exact ⟨List.mem_append_left _ (h2 K hK).1, (h2 K hK).2⟩
      · exact ⟨List.mem_append_right _ (h4 K hK).1, (h4 K hK).2⟩
  | .mth f m => packCs_live hbx hob hfx mv m
  | .fx r => by
    simp only [packC]
    split
    · rename_i x hx
      have hl : Live s.boxes s.objs s.fxs (.fx r) := by show s.fxs r ≠ none; rw [hfx r x hx]; simp
      refine ⟨fun K hK => ?_, fun K hK => ?_⟩
      · rw [List.mem_singleton] at hK; subst hK; exact hl
      · have hK : K ∈ ([.fx r] : List Key) := hK
        rw [List.mem_singleton] at hK; subst hK; exact ⟨List.mem_cons_self, fun o h => by cases h⟩
    · exact ⟨fun K hK => (by cases hK), fun K hK => (by cases hK)⟩
  | .ow _ _ => ⟨fun K hK => (by cases hK), fun K hK => (by cases hK)⟩
  | .io _ _ => ⟨fun K hK => (by cases hK), fun K hK => (by cases hK)⟩
  | .fd _ => ⟨fun K hK => (by cases hK), fun K hK => (by cases hK)⟩
theorem packCs_live (hbx : ∀ b cs, bx b = some cs → s.boxes b = some cs) (hob : ∀ o y, ob o = some y → s.objs o = some y) (hfx : ∀ r y, fx r = some y → s.fxs r = some y) (mv : Bool) :
    ∀ (xs : List (CV I)), (∀ K ∈ (packCs bx ob fx mv xs).2.1, Live s.boxes s.objs s.fxs K) ∧ ∀ K ∈ (packCs bx ob fx mv xs).2.2, K ∈ (packCs bx ob fx mv xs).2.1 ∧ ∀ o, K ≠ .obj o
  | [] => ⟨fun K hK => (by cases hK), fun K hK => (by cases hK)⟩
  | x :: xs => by
    obtain ⟨h1, h2⟩ := packC_live hbx hob hfx mv x
    obtain ⟨h3, h4⟩ := packCs_live hbx hob hfx mv xs
    simp only [packCs]
    refine ⟨fun K hK => ?_, fun K hK => ?_⟩
    · rcases List.mem_append.1 hK with hK | hK
      · exact h1 K hK
      · exact h3 K hK
    · rcases List.mem_append.1 hK with hK | hK
      · exact ⟨List.mem_append_left _ (h2 K hK).1, (h2 K hK).2⟩
      · exact ⟨List.mem_append_right _ (h4 K hK).1, (h4 K hK).2⟩
end
mutual
theorem packA_live (hbx : ∀ b cs, bx b = some cs → s.boxes b = some cs) (hob : ∀ o y, ob o = some y → s.objs o = some y) (hfx : ∀ r y, fx r = some y → s.fxs r = some y) (mv : Bool) :
    ∀ (x : AV I), (∀ K ∈ (packA bx ob fx mv x).2.1, Live s.boxes s.objs s.fxs K) ∧ ∀ K ∈ (packA bx ob fx mv x).2.2, K ∈ (packA bx ob fx mv x).2.1 ∧ ∀ o, K ≠ .obj o
  | .c x => packC_live hbx hob hfx mv x
  | .agg xs => packCs_live hbx hob hfx mv xs
  | .tup xs => packAs_live hbx hob hfx mv xs
  | .any => ⟨fun K hK => (by cases hK), fun K hK => (by cases hK)⟩
theorem packAs_live (hbx : ∀ b cs, bx b = some cs → s.boxes b = some cs) (hob : ∀ o y, ob o = some y → s.objs o = some y) (hfx : ∀ r y, fx r = some y → s.fxs r = some y) (mv : Bool) :
    ∀ (xs : List (AV I)), (∀ K ∈ (packAs bx ob fx mv xs).2.1, Live s.boxes s.objs s.fxs K) ∧ ∀ K ∈ (packAs bx ob fx mv xs).2.2, K ∈ (packAs bx ob fx mv xs).2.1 ∧ ∀ o, K ≠ .obj o
  | [] => ⟨fun K hK => (by cases hK), fun K hK => (by cases hK)⟩
  | x :: xs => by
    obtain ⟨h1, h2⟩ := packA_live hbx hob hfx mv x
    obtain ⟨h3, h4⟩ := packAs_live hbx hob hfx mv xs
    simp only [packAs]
    refine ⟨fun K hK => ?_, fun K hK => ?_⟩
    · rcases List.mem_append.1 hK with hK | hK
      · exact h1 K hK
      · exact h3 K hK
    · rcases List.mem_append.1 hK with hK | hK
      · exact ⟨List.mem_append_left _ (h2 K hK).1, (h2 K hK).2⟩
      · exact ⟨List.mem_append_right _ (h4 K hK).1, (h4 K hK).2⟩
end
theorem Con.kill (h : Con E X B w0 Sl0 Ex γ Sl s a w) {o : Nat} {x : Obj I} (ho : s.objs o = some x) :
    Con E X B w0 Sl0 Ex (γ.setO o (.slice none 0 0)) Sl { s with objs := upd s.objs o (some ⟨x.ver + 1, x.t, []⟩) } a w := by
  have hon : ∀ b, b ≠ o → (γ.setO o (.slice none 0 0)).o b = γ.o b := fun b hb => by simp [Gam.setO, hb]
  have hos : (γ.setO o (.slice none 0 0)).o o = .slice none 0 0 := by simp [Gam.setO]
  have m : Moves Sl Sl w w X B γ (γ.setO o (.slice none 0 0)) s.boxes s.boxes s.objs (upd s.objs o (some ⟨x.ver + 1, x.t, []⟩)) s.fxs s.fxs := by
    refine ⟨fun _ _ h => h, fun _ _ _ _ h => h, fun b hb => ⟨hb, rfl⟩, fun q y hy => ?_, fun r hr => ⟨hr, rfl⟩⟩
    by_cases e : q = o
    · subst e
      rw [ho] at hy
      injection hy with hy
      subst hy
      exact ⟨_, by rw [upd_same], by simp, fun h => by simp at h⟩
    · exact ⟨y, by rw [upd_other _ _ _ _ e]; exact hy, Nat.le_refl _, fun _ => hon q e⟩
  have hL : ∀ K, Live s.boxes (upd s.objs o (some ⟨x.ver + 1, x.t, []⟩)) s.fxs K → K ≠ .obj o → Live s.boxes s.objs s.fxs K := by
    intro K hK hne
    cases K with
    | obj b =>
      have : b ≠ o := fun e => hne (by rw [e])
      have hK : upd s.objs o (some ⟨x.ver + 1, x.t, []⟩) b ≠ none := hK
      rw [upd_other _ _ _ _ this] at hK; exact hK
    | box o => exact hK
    | fx r => exact hK
  have hgK : ∀ K, Live s.boxes (upd s.objs o (some ⟨x.ver + 1, x.t, []⟩)) s.fxs K → K ≠ .obj o → (γ.setO o (.slice none 0 0)).fpK K = γ.fpK K := by
    intro K hK hne
    cases K with
    | obj b =>
      have : b ≠ o := fun e => hne (by rw [e])
      simp [Gam.fpK, hon b this]
    | box o => rfl
    | fx r => rfl
  have hno : (γ.setO o (.slice none 0 0)).fpK (.obj o) = [] := by simp [Gam.fpK, hos, Value.ownBlock]
  refine ⟨h.df, fun t => (h.tm t).move m, fun v x hx => (h.ex v x hx).move m, fun b cs hb => ?_, fun q y hy => ?_, fun r x hr => h.fx r x hr, mine_new h.mine hL hgK (fun k hk => by rw [hno] at hk; cases hk), dj_new h.dj hL hgK (fun K k _ hk => by rw [hno] at hk; cases hk), h.s0, h.s1, h.sh, h.sc, h.kp, h.hB⟩
  · obtain ⟨vs, e, c1, c2, c3, c5⟩ := h.bx b cs hb
    exact ⟨vs, e, c1, c2, fun j y hj => (c3 j y hj).move m, c5⟩
  · by_cases e : q = o
    · subst e
      simp only [upd_same, Option.some.injEq] at hy
      subst hy
      obtain ⟨vals, ti, k0, _⟩ := h.ob q x ho
      rw [hos]
      exact ⟨[], ti, k0, World.ownsRow_nil w 0 _ _, by simp, fun k hk => by simp [Value.ownBlock] at hk⟩
    · simp only [upd_other _ _ _ _ e] at hy
      rw [hon q e]
      exact h.ob q y hy
structure Killed (ob : Nat → Option (Obj I)) (ks : List Key) (γ γ' : Gam) (s s' : AS I) : Prop where
  b : γ'.b = γ.b
  f : γ'.f = γ.f
  fp : γ'.fp = γ.fp
  bx : s'.boxes = s.boxes
  fx : s'.fxs = s.fxs
  live : ∀ o, s'.objs o ≠ none → s.objs o ≠ none
  gone : ∀ o, Key.obj o ∈ ks → ob o ≠ none → (γ'.o o).ownBlock = none
  rest : ∀ o, Key.obj o ∉ ks → γ'.o o = γ.o o ∧ s'.objs o = s.objs o
theorem Con.kills : ∀ (ks : List Key) (γ : Gam) (s : AS I), Con E X B w0 Sl0 Ex γ Sl s a w → apartK ks = true → (∀ o x, Key.obj o ∈ ks → ob o = some x → s.objs o = some x) → ∃ γ', Con E X B w0 Sl0 Ex γ' Sl (applyM (kills ob ks) s) a w ∧ Killed ob ks γ γ' s (applyM (kills ob ks) s)
  | [], γ, s, h, _, _ => ⟨γ, h, rfl, rfl, rfl, rfl, rfl, fun _ h => h, fun o ho => (by cases ho), fun o _ => ⟨rfl, rfl⟩⟩
  | .obj o :: r, γ, s, h, ha, hs => by
    obtain ⟨h1, h2⟩ := apart_cons ha
    simp only [Go.Ev.kills]
    split
    · rename_i x hx
      have ho := hs o x List.mem_cons_self hx
      have c1 := h.kill ho
      obtain ⟨γ', c2, k⟩ := Con.kills r _ _ c1 h2 (fun q y hq hy => by
        have : q ≠ o := fun e => h1 _ hq (by rw [e])
        show upd s.objs o _ q = some y
        rw [upd_other _ _ _ _ this]
        exact hs q y (List.mem_cons_of_mem _ hq) hy)
      refine ⟨γ', c2, k.b, k.f, k.fp, k.bx, k.fx, fun q hq => ?_, fun q hq hn => ?_, fun q hq => ?_⟩
      · have := k.live q hq
        have hh : upd s.objs o (some ⟨x.ver + 1, x.t, []⟩) q ≠ none := this
        rw [upd_eq] at hh
        split at hh
        · rename_i e; rw [e, ho]; simp
        · exact hh
      · by_cases hqr : Key.obj q ∈ r
        · exact k.gone q hqr hn
        · rcases List.mem_cons.1 hq with he | he
          · injection he with he
            subst he
            rw [(k.rest q hqr).1]
            simp [Gam.setO, Value.ownBlock]
          · exact absurd he hqr
      · have hne : q ≠ o := fun e => hq (by rw [e]; exact List.mem_cons_self)
        obtain ⟨e1, e2⟩ := k.rest q (fun hh => hq (List.mem_cons_of_mem _ hh))
        refine ⟨e1.trans (by simp [Gam.setO, hne]), e2.trans (upd_other _ _ _ _ hne)⟩
    · rename_i hx
      obtain ⟨γ', c2, k⟩ := Con.kills r γ s h h2 (fun q y hq hy => hs q y (List.mem_cons_of_mem _ hq) hy)
      refine ⟨γ', c2, k.b, k.f, k.fp, k.bx, k.fx, k.live, fun q hq hn => ?_, fun q hq => k.rest q (fun hh => hq (List.mem_cons_of_mem _ hh))⟩
      rcases List.mem_cons.1 hq with he | he
      · injection he with he
        subst he
        exact absurd hx hn
      · exact k.gone q he hn
  | .box b :: r, γ, s, h, ha, hs => by
    obtain ⟨h1, h2⟩ := apart_cons ha
    obtain ⟨γ', c2, k⟩ := Con.kills r γ s h h2 (fun q y hq hy => hs q y (List.mem_cons_of_mem _ hq) hy)
    refine ⟨γ', c2, k.b, k.f, k.fp, k.bx, k.fx, k.live, fun q hq hn => ?_, fun q hq => k.rest q (fun hh => hq (List.mem_cons_of_mem _ hh))⟩
    rcases List.mem_cons.1 hq with he | he
    · cases he
    · exact k.gone q he hn
  | .fx b :: r, γ, s, h, ha, hs => by
    obtain ⟨h1, h2⟩ := apart_cons ha
    obtain ⟨γ', c2, k⟩ := Con.kills r γ s h h2 (fun q y hq hy => hs q y (List.mem_cons_of_mem _ hq) hy)
    refine ⟨γ', c2, k.b, k.f, k.fp, k.bx, k.fx, k.live, fun q hq hn => ?_, fun q hq => k.rest q (fun hh => hq (List.mem_cons_of_mem _ hh))⟩
    rcases List.mem_cons.1 hq with he | he
    · cases he
    · exact k.gone q he hn
theorem Con.recell (h : Con E X B w0 Sl0 Ex γ Sl s a w) {b : Nat} {cs ys : List (CV I)} (hb : s.boxes b = some cs)
    (hy : ∀ vs e, w.heap[γ.b b]? = some (.cells vs e (0, 0)) → vs.size = cs.length → (∀ j y, cs[j]? = some y → CRep E Sl w X B γ s.boxes s.objs s.fxs (vs.getD j undef) y) → vs.size = ys.length ∧ ∀ j y, ys[j]? = some y → CRep E Sl w X B γ s.boxes s.objs s.fxs (vs.getD j undef) y) :
    Con E X B w0 Sl0 Ex γ Sl { s with boxes := upd s.boxes b (some ys) } a w := by
  have m : Moves Sl Sl w w X B γ γ s.boxes (upd s.boxes b (some ys)) s.objs s.objs s.fxs s.fxs := by
    refine ⟨fun _ _ h => h, fun _ _ _ _ h => h, fun b' hb' => ⟨?_, rfl⟩, fun o x hx => ⟨x, hx, Nat.le_refl _, fun _ => rfl⟩, fun r hr => ⟨hr, rfl⟩⟩
    rw [upd_eq]; split
    · simp
    · exact hb'
  have uL : ∀ K, Live (upd s.boxes b (some ys)) s.objs s.fxs K → Live s.boxes s.objs s.fxs K := by
    intro K hK
    cases K with
    | box b' =>
      have hK : upd s.boxes b (some ys) b' ≠ none := hK
      rw [upd_eq] at hK
      split at hK
      · rename_i e; show s.boxes b' ≠ none; rw [e, hb]; simp
      · exact hK
    | obj o => exact hK
    | fx r => exact hK
  refine ⟨h.df, fun t => (h.tm t).move m, fun v x hx => (h.ex v x hx).move m, fun b' cs' hb' => ?_, fun o x ho => h.ob o x ho, fun r x hr => h.fx r x hr, fun K k hK hk => h.mine K k (uL K hK) hk, fun K K' k h1 h2 => h.dj K K' k (uL K h1) (uL K' h2), h.s0, h.s1, h.sh, h.sc, h.kp, h.hB⟩
  simp only [upd_eq] at hb'
  split at hb'
  · rename_i e; subst e
    injection hb' with hb'
    subst hb'
    obtain ⟨vs, e, c1, c2, c3, c5⟩ := h.bx b' cs hb
    obtain ⟨k1, k2⟩ := hy vs e c1 c2 c3
    exact ⟨vs, e, c1, k1, fun j y hj => (k2 j y hj).move m, c5⟩
  · obtain ⟨vs, e, c1, c2, c3, c5⟩ := h.bx b' cs' hb'
    exact ⟨vs, e, c1, c2, fun j y hj => (c3 j y hj).move m, c5⟩
theorem Con.blank (h : Con E X B w0 Sl0 Ex γ Sl s a w) {b : Nat} {cs : List (CV I)} (hb : s.boxes b = some cs) : Con E X B w0 Sl0 Ex γ Sl { s with boxes := upd s.boxes b (some (cs.map fun _ => .d .any)) } a w :=
  h.recell hb fun vs e _ hl hc => ⟨by simpa using hl, fun j y hj => by
    rw [List.getElem?_map, Option.map_eq_some_iff] at hj
    obtain ⟨c, hc', rfl⟩ := hj
    exact .d _ _ (.any _ (hc j c hc').one)⟩
structure Blanked (qs : List Key) (s s' : AS I) : Prop where
  ob : s'.objs = s.objs
  fx : s'.fxs = s.fxs
  yes : ∀ b cs, Key.box b ∈ qs → s.boxes b = some cs → ∃ cs', s'.boxes b = some cs' ∧ cs'.length = cs.length ∧ ∀ y ∈ cs', y = .d .any
  no : ∀ b, Key.box b ∉ qs → s'.boxes b = s.boxes b
theorem Con.blanks (h0 : ∀ b cs, bx b = some cs → s.boxes b = some cs) : ∀ (qs : List Key) (s1 : AS I), Con E X B w0 Sl0 Ex γ Sl s1 a w → (∀ b, Key.box b ∈ qs → bx b ≠ none) → (∀ b, s1.boxes b = s.boxes b ∨ ∃ cs cs', s.boxes b = some cs ∧ s1.boxes b = some cs' ∧ cs'.length = cs.length ∧ ∀ y ∈ cs', y = .d .any) →
    Con E X B w0 Sl0 Ex γ Sl (applyM (blanks bx qs) s1) a w ∧ Blanked qs s1 (applyM (blanks bx qs) s1)
  | [], s1, h, _, _ => ⟨h, rfl, rfl, fun b cs hb => (by cases hb), fun b _ => rfl⟩
  | .obj o :: r, s1, h, hq, hs => by
    obtain ⟨c, k⟩ := Con.blanks h0 r s1 h (fun b hb => hq b (List.mem_cons_of_mem _ hb)) hs
    refine ⟨c, k.ob, k.fx, fun b cs hb => ?_, fun b hb => k.no b (fun hh => hb (List.mem_cons_of_mem _ hh))⟩
    rcases List.mem_cons.1 hb with he | he
    · cases he
    · exact k.yes b cs he
  | .fx o :: r, s1, h, hq, hs => by
    obtain ⟨c, k⟩ := Con.blanks h0 r s1 h (fun b hb => hq b (List.mem_cons_of_mem _ hb)) hs
    refine ⟨c, k.ob, k.fx, fun b cs hb => ?_, fun b hb => k.no b (fun hh => hb (List.mem_cons_of_mem _ hh))⟩
    rcases List.mem_cons.1 hb with he | he
    · cases he
    · exact k.yes b cs he
  | .box b :: r, s1, h, hq, hs => by
    cases hbx : bx b with
    | none => exact absurd hbx (hq b List.mem_cons_self)
    | some cs0 =>
      have hsb := h0 b cs0 hbx
      have hw : Go.Ev.blanks bx (.box b :: r) = .box b (cs0.map fun _ => .d .any) :: Go.Ev.blanks bx r := by simp [Go.Ev.blanks, hbx]
      rw [hw]
      obtain ⟨cs1, hs1, hl1⟩ : ∃ cs1, s1.boxes b = some cs1 ∧ cs1.length = cs0.length := by
        rcases hs b with h1 | ⟨cs, cs', h1, h2, h3, _⟩
        · exact ⟨cs0, h1.trans hsb, rfl⟩
        · rw [hsb] at h1
          injection h1 with h1
          subst h1
          exact ⟨cs', h2, h3⟩
      have hmap : cs1.map (fun _ => (.d .any : CV I)) = cs0.map fun _ => .d .any := by
        apply List.ext_getElem
        · simpa using hl1
        · intro i h1 h2; simp
      have c1 := h.blank hs1
      rw [hmap] at c1
      obtain ⟨c, k⟩ := Con.blanks h0 r _ c1 (fun b hb => hq b (List.mem_cons_of_mem _ hb)) (fun b' => by
        by_cases e : b' = b
        · subst e
          right
          exact ⟨cs0, _, hsb, by show upd s1.boxes b' _ b' = _; rw [upd_same], by simp, fun y hy => by simp at hy; exact hy.2.symm⟩
        · have : (⟨s1.tmps, upd s1.boxes b (some (cs0.map fun _ => .d .any)), s1.objs, s1.fxs⟩ : AS I).boxes b' = s1.boxes b' := upd_other _ _ _ _ e
          rw [this]
          exact hs b')
      refine ⟨c, k.ob, k.fx, fun b' cs hb hcs => ?_, fun b' hb => ?_⟩
      · by_cases e : b' = b
        · subst e
          rw [hs1] at hcs
          injection hcs with hcs
          subst hcs
          by_cases hr : Key.box b' ∈ r
          · obtain ⟨cs', k1, k2, k3⟩ := k.yes b' (cs0.map fun _ => .d .any) hr (by show upd s1.boxes b' _ b' = _; rw [upd_same])
            exact ⟨cs', k1, by rw [k2, List.length_map, hl1], k3⟩
          · refine ⟨_, (k.no b' hr).trans (by show upd s1.boxes b' _ b' = _; rw [upd_same]), by simp [hl1], fun y hy => by simp at hy; exact hy.2.symm⟩
        · rcases List.mem_cons.1 hb with he | he
          · injection he with he; exact absurd he e
          · exact k.yes b' cs he (by show upd s1.boxes b _ b' = _; rw [upd_other _ _ _ _ e]; exact hcs)
      · have e : b' ≠ b := fun e => hb (by rw [e]; exact List.mem_cons_self)
        exact (k.no b' (fun hh => hb (List.mem_cons_of_mem _ hh))).trans (upd_other _ _ _ _ e)
end
end Go.Ev
end
section
namespace Go.Ev
open Go.RowKit
variable {I : Nat → Type}
section
variable {P : Program} {E : Env I} {sp : Nat → List (AV I) → Tree (RV I)} {X : Nat → Prop} {B : Nat} {w0 : World} {Sl0 : Nat → Nat → Prop} {Ex : Value → AV I → Prop} {γ : Gam} {Sl Sl' : Nat → Nat → Prop} {s : AS I} {a : Act} {w w' : World} {bx : Nat → Option (List (CV I))} {ob : Nat → Option (Obj I)} {fx : Nat → Option (I 1000003)} {X0 : Nat → Prop} {B0 : Nat}
def Gam.setFs (γ : Gam) (qs : List Key) (fpn : Nat → List Nat) : Gam := ⟨γ.b, γ.o, γ.f, fun r => if Key.fx r ∈ qs then fpn r else γ.fp r⟩
theorem Con.world (h : Con E X B w0 Sl0 Ex γ Sl s a w) {fp : List Nat} {qs : List Key} {fpn : Nat → List Nat} {fx2 : Nat → Option (I 1000003)} (hkp : KeepX (· ∈ fp) w.heap.size w w') (hext : Ext Sl Sl' w w' fp)
    (hmine : ∀ k ∈ fp, B ≤ k ∨ X k) (hrest : ∀ K k, Live s.boxes s.objs s.fxs K → K ∉ qs → k ∈ γ.fpK K → k ∉ fp) (hqo : ∀ o, Key.obj o ∉ qs)
    (hbx : ∀ b cs, Key.box b ∈ qs → s.boxes b = some cs → (∀ y ∈ cs, y = .d .any) ∧ ∃ vs e, w'.heap[γ.b b]? = some (.cells vs e (0, 0)) ∧ vs.size = cs.length ∧ (∀ v ∈ vs.toList, v.oneCell' = true) ∧ ∀ j, ¬ Sl' (γ.b b) j)
    (hfl : ∀ r, Key.fx r ∈ qs → s.fxs r ≠ none)
    (hfx : ∀ r, Key.fx r ∈ qs → ∃ x, fx2 r = some x ∧ E.frep x Sl' w' (γ.f r) (fpn r) ∧ (fpn r).Nodup ∧ ∀ k ∈ fpn r, (k < w'.heap.size ∧ ∀ j, ¬ Sl' k j) ∧ (w.heap.size ≤ k ∨ k ∈ fp))
    (hfo : ∀ r, Key.fx r ∉ qs → fx2 r = s.fxs r) (hff : ∀ r r' k, Key.fx r ∈ qs → Key.fx r' ∈ qs → k ∈ fpn r → k ∈ fpn r' → r = r') (hfb : ∀ r b, Key.fx r ∈ qs → Key.box b ∈ qs → γ.b b ∉ fpn r) :
    Con E X B w0 Sl0 Ex (γ.setFs qs fpn) Sl' { s with fxs := fx2 } a w' ∧ Moves Sl Sl' w w' X B γ (γ.setFs qs fpn) s.boxes s.boxes s.objs s.objs s.fxs fx2 := by
  have m : Moves Sl Sl' w w' X B γ (γ.setFs qs fpn) s.boxes s.boxes s.objs s.objs s.fxs fx2 := by
    refine ⟨hext.s, fun g o u hs hu => ?_, fun b hb => ⟨hb, rfl⟩, fun o x hx => ⟨x, hx, Nat.le_refl _, fun _ => rfl⟩, fun r hr => ⟨?_, rfl⟩⟩
    · rcases hs with hs | ⟨h1, h2⟩
      · exact hext.c g o u hs hu
      · have hlt := cell_block hu
        have : g ∉ fp := fun hg => by rcases hmine g hg with h3 | h3; omega; exact h2 h3
        exact (cell_same (hkp.block g hlt this)).trans hu
    · by_cases hq : Key.fx r ∈ qs
      · obtain ⟨x, hx, _⟩ := hfx r hq
        rw [hx]; simp
      · rw [hfo r hq]; exact hr
  have hL : ∀ K, Live s.boxes s.objs fx2 K → Live s.boxes s.objs s.fxs K := by
    intro K hK
    cases K with
    | fx r =>
      by_cases hq : Key.fx r ∈ qs
      · exact hfl r hq
      · have hK : fx2 r ≠ none := hK
        rw [hfo r hq] at hK
        exact hK
    | box b => exact hK
    | obj o => exact hK
  have old : ∀ g j, g < w.heap.size → g ∉ fp → Sl' g j → Sl g j := fun g j h1 h2 hs => (hext.n g j hs).elim id fun hx => by
    rcases hx.1 with h3 | h3
    · omega
    · exact absurd h3 h2
  have same : ∀ K, ¬ (∃ r, K = .fx r ∧ Key.fx r ∈ qs) → (γ.setFs qs fpn).fpK K = γ.fpK K := by
    intro K hK
    cases K with
    | fx r =>
      have : Key.fx r ∉ qs := fun hq => hK ⟨r, rfl, hq⟩
      simp [Gam.fpK, Gam.setFs, this]
    | box b => rfl
    | obj o => rfl
  have news : ∀ r, Key.fx r ∈ qs → (γ.setFs qs fpn).fpK (.fx r) = fpn r := fun r hq => by simp [Gam.fpK, Gam.setFs, hq]
  have isNew : ∀ {k}, (w.heap.size ≤ k ∨ k ∈ fp) → B ≤ k ∨ X k := fun hk => hk.elim (fun h1 => .inl (Nat.le_trans h.hB h1)) (hmine _)
  -- a thing that came back, and another one
  have cross : ∀ r K k, Key.fx r ∈ qs → Live s.boxes s.objs fx2 K → ¬ (∃ r, K = .fx r ∧ Key.fx r ∈ qs) → k ∈ fpn r → k ∈ γ.fpK K → False := by
    intro r K k hr hK hne h1 h2
    have hKl := hL K hK
    by_cases hq : K ∈ qs
    · cases K with
      | fx r' => exact hne ⟨r', rfl, hq⟩
      | obj o => exact hqo o hq
      | box b =>
        have : k = γ.b b := by simpa [Gam.fpK] using h2
        subst this
        exact hfb r b hr hq h1
    · obtain ⟨x, _, _, _, h5⟩ := hfx r hr
      rcases (h5 k h1).2 with h6 | h6
      · have := h.fp_lt hKl h2; omega
      · exact hrest K k hKl hq h2 h6
  refine ⟨⟨h.df, fun t => (h.tm t).move m, fun v x hx => (h.ex v x hx).move m, fun b cs hb => ?_, fun o x ho => ?_, fun r x hr => ?_, fun K k hK hk => ?_, fun K K' k h1 h2 e1 e2 => ?_, fun g o hs => hext.s g o (h.s0 g o hs), fun g o hs => ?_, fun g o hs => ?_, fun g o u hs hu => hext.c g o u (h.s0 g o hs) (h.sc g o u hs hu), ?_, Nat.le_trans h.hB hkp.size⟩, m⟩
  · have hbl : Live s.boxes s.objs s.fxs (.box b) := by show s.boxes b ≠ none; rw [show s.boxes b = some cs from hb]; simp
    by_cases hq : Key.box b ∈ qs
    · obtain ⟨h1, vs, e, h2, h3, h4, h5⟩ := hbx b cs hq hb
      refine ⟨vs, e, h2, h3, fun j y hj => ?_, h5⟩
      have hy := h1 y (List.mem_of_getElem? hj)
      subst hy
      have hlt : j < vs.size := by rw [h3]; exact (List.getElem?_eq_some_iff.1 hj).1
      refine .d _ _ (.any _ ?_)
      have e1 : vs.getD j undef = vs[j] := by simp [Array.getD_eq_getD_getElem?, hlt]
      rw [e1]
      exact h4 _ (by simp)
    · obtain ⟨vs, e, c1, c2, c3, c5⟩ := h.bx b cs hb
      have hlt := h.box_lt hbl
      have hnf := hrest (.box b) (γ.b b) hbl hq (by simp [Gam.fpK])
      exact ⟨vs, e, (hkp.block _ hlt hnf).trans c1, c2, fun j y hj => (c3 j y hj).move m, fun j hs => c5 j (old _ j hlt hnf hs)⟩
  · have hol : Live s.boxes s.objs s.fxs (.obj o) := by show s.objs o ≠ none; rw [show s.objs o = some x from ho]; simp
    obtain ⟨vals, ti, c0, c1, c2, c3⟩ := h.ob o x ho
    have hnf : ∀ k, (γ.o o).ownBlock = some k → k < w.heap.size ∧ k ∉ fp := fun k hk => ⟨ownsRow_lt c1 hk, hrest (.obj o) k hol (hqo o) (by simp [Gam.fpK, hk])⟩
    refine ⟨vals, ti, c0, ownsRow_block w w' _ _ _ _ _ _ c1 (fun k hk => hkp.block k (hnf k hk).1 (hnf k hk).2), fun i r j y hi hj => ?_, fun k hk j => ?_⟩
    · obtain ⟨u, hu, hd⟩ := c2 i r j y hi hj
      exact ⟨u, hu, hd.move m.S fun g o u hs => m.c g o u (.inl hs)⟩
    · rw [← c3 k hk j]
      exact ⟨fun hs => old k j (hnf k hk).1 (hnf k hk).2 hs, fun hs => hext.s _ _ hs⟩
  · by_cases hq : Key.fx r ∈ qs
    · obtain ⟨x', h1, h2, h3, h4⟩ := hfx r hq
      have : x' = x := by
        have hr : fx2 r = some x := hr
        rw [h1] at hr
        injection hr
      subst this
      have e1 : (γ.setFs qs fpn).fp r = fpn r := by simp [Gam.setFs, hq]
      rw [e1]
      refine ⟨h2, ?_, h3, fun k hk => (h4 k hk).1⟩
      cases hc : s.fxs r with
      | none => exact absurd hc (hfl r hq)
      | some x0 => exact (h.fx r x0 hc).2.1
    · have hr : fx2 r = some x := hr
      rw [hfo r hq] at hr
      obtain ⟨k1, k2, kn, k3⟩ := h.fx r x hr
      have hrl : Live s.boxes s.objs s.fxs (.fx r) := by show s.fxs r ≠ none; rw [hr]; simp
      have e1 : (γ.setFs qs fpn).fp r = γ.fp r := by simp [Gam.setFs, hq]
      rw [e1]
      have hnf : ∀ k ∈ γ.fp r, k < w.heap.size ∧ k ∉ fp := fun k hk => ⟨(k3 k hk).1, hrest (.fx r) k hrl hq hk⟩
      exact ⟨E.frame x Sl Sl' w w' _ _ k1 hext.s hext.c (fun k hk => hkp.block k (hnf k hk).1 (hnf k hk).2), k2, kn, fun k hk => ⟨Nat.lt_of_lt_of_le (k3 k hk).1 hkp.size, fun j hs => (k3 k hk).2 j (old k j (hnf k hk).1 (hnf k hk).2 hs)⟩⟩
  · by_cases hq : ∃ r, K = .fx r ∧ Key.fx r ∈ qs
    · obtain ⟨r, rfl, hq⟩ := hq
      rw [news r hq] at hk
      obtain ⟨x, _, _, _, h4⟩ := hfx r hq
      exact isNew (h4 k hk).2
    · rw [same K hq] at hk
      exact h.mine K k (hL K hK) hk
  · by_cases hq : ∃ r, K = .fx r ∧ Key.fx r ∈ qs <;> by_cases hq' : ∃ r, K' = .fx r ∧ Key.fx r ∈ qs
    · obtain ⟨r, rfl, hq⟩ := hq
      obtain ⟨r', rfl, hq'⟩ := hq'
      rw [news r hq] at e1
      rw [news r' hq'] at e2
      rw [hff r r' k hq hq' e1 e2]
    · obtain ⟨r, rfl, hq⟩ := hq
      rw [news r hq] at e1
      rw [same K' hq'] at e2
      exact (cross r K' k hq h2 hq' e1 e2).elim
    · obtain ⟨r, rfl, hq'⟩ := hq'
      rw [news r hq'] at e2
      rw [same K hq] at e1
      exact (cross r K k hq' h1 hq e2 e1).elim
    · rw [same K hq] at e1
      rw [same K' hq'] at e2
      exact h.dj K K' k (hL K h1) (hL K' h2) e1 e2
  · rcases hext.n g o hs with hs | hs
    · exact h.s1 g o hs
    · exact .inr (isNew hs.1)
  · rcases hext.n g o hs with hs | hs
    · exact Nat.lt_of_lt_of_le (h.sh g o hs) hkp.size
    · exact hs.2
  · refine h.kp.of hkp.os hkp.tape hkp.output hkp.size fun i hi hx => hkp.block i (Nat.lt_of_lt_of_le hi h.hB) fun hf => ?_
    rcases hmine i hf with h3 | h3
    · omega
    · exact hx h3
structure Outs (E : Env I) (γ : Gam) (Sl' : Nat → Nat → Prop) (w' : World) (qs : List Key) (p : List Nat) (fs : List (MW I)) (fpn : Nat → List Nat) : Prop where
  mem : ∀ s : AS I, (applyM fs s).boxes = s.boxes ∧ (applyM fs s).objs = s.objs ∧ (applyM fs s).tmps = s.tmps ∧ ∀ r, Key.fx r ∉ qs → (applyM fs s).fxs r = s.fxs r
  fx : ∀ r, Key.fx r ∈ qs → ∃ x, (∀ s : AS I, (applyM fs s).fxs r = some x) ∧ E.frep x Sl' w' (γ.f r) (fpn r) ∧ (fpn r).Nodup ∧ ∀ k ∈ fpn r, (k < w'.heap.size ∧ ∀ j, ¬ Sl' k j) ∧ k ∈ p
  bx : ∀ b, Key.box b ∈ qs → γ.b b ∈ p ∧ ∃ vs e, w'.heap[γ.b b]? = some (.cells vs e (0, 0)) ∧ (∀ cs, bx b = some cs → vs.size = cs.length) ∧ (∀ v ∈ vs.toList, v.oneCell' = true) ∧ ∀ j, ¬ Sl' (γ.b b) j
  ff : ∀ r r' k, Key.fx r ∈ qs → Key.fx r' ∈ qs → k ∈ fpn r → k ∈ fpn r' → r = r'
  fb : ∀ r b, Key.fx r ∈ qs → Key.box b ∈ qs → γ.b b ∉ fpn r
theorem prep_one {v : Value} {x : CV I} {fp : List Nat} {rs : List Value} (h : PRep E Sl w X0 B0 v x fp rs) : v.oneCell' = true := by
  cases h with
  | d _ _ h => exact h.one
  | ow _ _ _ _ _ _ h _ _ => exact ownsRow_slice h
  | fd _ _ _ _ h _ => exact h
  | _ => rfl
theorem preps_one : ∀ {us : List Value} {xs : List (CV I)} {fp : List Nat} {rs : List Value}, PReps E Sl w X0 B0 us xs fp rs → ∀ v ∈ us, v.oneCell' = true
  | _, [], _, _, h => by cases h with | nil => intro v hv; cases hv
  | _, x :: xs, _, _, h => by
    cases h with
    | cons v vs _ _ p q r t h1 h2 =>
      intro u hu
      rcases List.mem_cons.1 hu with hu | hu
      · rw [hu]; exact prep_one h1
      · exact preps_one h2 u hu
theorem after_ok (hrp : RpOK X0 B0 X B) : ∀ (qs : List Key) (outs : List (CV I)) (n : Nat) (news bs fs : List (MW I)) (p : List Nat) (r : List Value), after bx n qs outs = some (news, bs, fs) → PReps E Sl' w' X0 B0 (qs.map γ.valK) outs p r → p.Nodup → qs.Nodup →
    ∃ fpn q, Outs E γ Sl' w' qs p fs fpn (bx := bx) ∧ (∀ k ∈ q, k ∈ p ∧ (∀ b, Key.box b ∈ qs → k ≠ γ.b b) ∧ ∀ r, Key.fx r ∈ qs → k ∉ fpn r) ∧ (∃ m, InR n m news) ∧
      ∀ (γ' : Gam) (s : AS I), Con E X B w0 Sl0 Ex γ' Sl' s a w' → (∀ k ∈ q, B ≤ k ∨ X k) → (∀ K k, Live s.boxes s.objs s.fxs K → k ∈ q → k ∉ γ'.fpK K) → Fresh s news →
        ∃ γ'', Got E X B w0 Sl0 Ex γ' Sl' s a w' q γ'' (applyM news s) ∧ ∀ m ∈ bs, ∃ b ys, m = .box b ys ∧ Key.box b ∈ qs ∧ ∃ vs e, w'.heap[γ.b b]? = some (.cells vs e (0, 0)) ∧ vs.size = ys.length ∧
          ∀ j y, ys[j]? = some y → CRep E Sl' w' X B γ'' (applyM news s).boxes (applyM news s).objs (applyM news s).fxs (vs.getD j undef) y
  | [], [], n, news, bs, fs, p, r, ha, hp, hn, hq => by
    simp only [after, Option.some.injEq, Prod.mk.injEq] at ha
    obtain ⟨rfl, rfl, rfl⟩ := ha
    refine ⟨fun _ => [], [], ⟨fun s => ⟨rfl, rfl, rfl, fun _ _ => rfl⟩, fun r hr => (by cases hr), fun b hb => (by cases hb), fun _ _ _ hr => (by cases hr), fun _ _ hr => (by cases hr)⟩, fun k hk => (by cases hk), ⟨n, InR.nil n⟩, fun γ' s hc _ _ _ => ⟨γ', Got.refl hc, fun m hm => (by cases hm)⟩⟩
  | .box b :: qs, .io cs off :: outs, n, news, bs, fs, p, r, ha, hp, hn, hq => by
    simp only [after] at ha
    split at ha
    · rename_i old hold
      split at ha
      · rename_i hlen
        have hlen := Nat.eq_of_beq_eq_true hlen
        cases hrec : after bx (unCs n cs).2.2 qs outs with
        | none => rw [hrec] at ha; cases ha
        | some t =>
          obtain ⟨news', bs', fs'⟩ := t
          rw [hrec] at ha
          simp only [Option.some.injEq, Prod.mk.injEq] at ha
          obtain ⟨rfl, rfl, rfl⟩ := ha
          simp only [List.map_cons] at hp
          generalize hv : γ.valK (.box b) = v0 at hp
          cases hp with
          | cons _ _ _ _ p1 p2 r1 r2 h1 h2 =>
            cases h1 with
            | io g _ vs e _ fp1 rs1 hg hl hps hs =>
              have hgb : γ.b b = g := by
                simp only [Gam.valK, Value.pointer.injEq, Option.some.injEq, Addr.mk.injEq] at hv
                exact hv.1
              subst hgb
              obtain ⟨n1, n2, n3⟩ := List.nodup_append.1 hn
              obtain ⟨m1, m2⟩ := List.nodup_cons.1 n1
              obtain ⟨fpn, q2, O, hq2, ⟨mm, hmm⟩, habs⟩ := after_ok hrp qs outs _ news' bs' fs' p2 r2 hrec h2 n2 (List.nodup_cons.1 hq).2
              refine ⟨fpn, fp1 ++ q2, ⟨fun s => ⟨(O.mem s).1, (O.mem s).2.1, (O.mem s).2.2.1, fun r hr => (O.mem s).2.2.2 r (fun hh => hr (List.mem_cons_of_mem _ hh))⟩, fun r hr => ?_, fun b' hb' => ?_, fun r r' k hr hr' => ?_, fun r b' hr hb' => ?_⟩, fun k hk => ?_, ⟨mm, (unCs_range cs n).append hmm⟩, fun γ' s hc hB hd hf => ?_⟩
              · rcases List.mem_cons.1 hr with hr | hr
                · cases hr
                · obtain ⟨x, k1, k2, k3, k4⟩ := O.fx r hr
                  exact ⟨x, k1, k2, k3, fun k hk => ⟨(k4 k hk).1, List.mem_append_right _ (k4 k hk).2⟩⟩
              · by_cases hbq : Key.box b' ∈ qs
                · obtain ⟨k1, k2⟩ := O.bx b' hbq
                  exact ⟨List.mem_append_right _ k1, k2⟩
                · rcases List.mem_cons.1 hb' with hb' | hb'
                  · injection hb' with hb'
                    subst hb'
                    refine ⟨List.mem_append_left _ List.mem_cons_self, vs, e, hg, fun cs' hcs' => ?_, preps_one hps, hs⟩
                    rw [hold] at hcs'
                    injection hcs' with hcs'
                    subst hcs'
                    rw [hl, hlen]
                  · exact absurd hb' hbq
              · rcases List.mem_cons.1 hr with hr | hr
                · cases hr
                · rcases List.mem_cons.1 hr' with hr' | hr'
                  · cases hr'
                  · exact O.ff r r' k hr hr'
              · rcases List.mem_cons.1 hr with hr2 | hr2
                · cases hr2
                · rcases List.mem_cons.1 hb' with hb' | hb'
                  · injection hb' with hb'
                    subst hb'
                    intro hin
                    obtain ⟨x, _, _, _, k4⟩ := O.fx r hr2
                    exact n3 _ List.mem_cons_self _ (k4 _ hin).2 rfl
                  · exact O.fb r b' hr2 hb'
              · rcases List.mem_append.1 hk with hk | hk
                · refine ⟨List.mem_append_left _ (List.mem_cons_of_mem _ hk), fun b' hb' => ?_, fun r hr => ?_⟩
                  · rcases List.mem_cons.1 hb' with hb' | hb'
                    · injection hb' with hb'
                      subst hb'
                      exact fun e => m1 (e ▸ hk)
                    · exact fun e => n3 k (List.mem_cons_of_mem _ hk) _ (O.bx b' hb').1 e
                  · rcases List.mem_cons.1 hr with hr | hr
                    · cases hr
                    · obtain ⟨x, _, _, _, k4⟩ := O.fx r hr
                      exact fun hin => n3 k (List.mem_cons_of_mem _ hk) _ (k4 k hin).2 rfl
                · obtain ⟨k1, k2, k3⟩ := hq2 k hk
                  refine ⟨List.mem_append_right _ k1, fun b' hb' => ?_, fun r hr => ?_⟩
                  · rcases List.mem_cons.1 hb' with hb' | hb'
                    · injection hb' with hb'
                      subst hb'
                      exact fun e => n3 _ List.mem_cons_self k k1 e.symm
                    · exact k2 b' hb'
                  · rcases List.mem_cons.1 hr with hr | hr
                    · cases hr
                    · exact k3 r hr
              · obtain ⟨γ1, g1, c1, _⟩ := absorbCs hrp cs n vs.toList fp1 rs1 γ' s hc hps m2 (fun k hk => hB k (List.mem_append_left _ hk)) (fun K k hK hk => hd K k hK (List.mem_append_left _ hk)) (fun m hm => hf m (List.mem_append_left _ hm))
                obtain ⟨γ2, g2, c2⟩ := habs γ1 _ g1.con (fun k hk => hB k (List.mem_append_right _ hk)) (fun K k hK hk hk' => by
                  rcases g1.fp K k hK hk' with h3 | h3
                  · exact hd K k h3.1 (List.mem_append_right _ hk) h3.2
                  · exact n3 k (List.mem_cons_of_mem _ h3) k (hq2 k hk).1 rfl) (hf.next (unCs_range cs n) hmm)
                rw [applyM_append]
                refine ⟨γ2, g1.trans g2, fun m hm => ?_⟩
                rcases List.mem_cons.1 hm with hm | hm
                · subst hm
                  refine ⟨b, _, rfl, List.mem_cons_self, vs, e, hg, by rw [unCs_length]; exact hl, fun j y hj => ?_⟩
                  have := (c1 j y hj).move g2.mv
                  rw [show vs.getD j undef = vs.toList.getD j undef by simp [Array.getD_eq_getD_getElem?, List.getD_eq_getElem?_getD]]
                  exact this
                · obtain ⟨b', ys, k1, k2, k3⟩ := c2 m hm
                  exact ⟨b', ys, k1, List.mem_cons_of_mem _ k2, k3⟩
      · cases ha
    · cases ha
  | .fx k0 :: qs, .fd x0 :: outs, n, news, bs, fs, p, r, ha, hp, hn, hq => by
    simp only [after] at ha
    cases hrec : after bx n qs outs with
    | none => rw [hrec] at ha; cases ha
    | some t =>
      obtain ⟨news', bs', fs'⟩ := t
      rw [hrec] at ha
      simp only [Option.some.injEq, Prod.mk.injEq] at ha
      obtain ⟨rfl, rfl, rfl⟩ := ha
      simp only [List.map_cons] at hp
      generalize hv : γ.valK (.fx k0) = v0 at hp
      cases hp with
      | cons _ _ _ _ p1 p2 r1 r2 h1 h2 =>
        cases h1 with
        | fd _ _ _ hx hone hk0 =>
          have hv : γ.f k0 = v0 := hv
          subst hv
          obtain ⟨n1, n2, n3⟩ := List.nodup_append.1 hn
          obtain ⟨q0, q1⟩ := List.nodup_cons.1 hq
          obtain ⟨fpn, q2, O, hq2, ⟨mm, hmm⟩, habs⟩ := after_ok hrp qs outs n news' bs' fs' p2 r2 hrec h2 n2 q1
          have hne : ∀ r, Key.fx r ∈ qs → r ≠ k0 := fun r hr e => q0 (e ▸ hr)
          refine ⟨fun r => if r = k0 then p1 else fpn r, q2, ⟨fun s => ?_, fun r hr => ?_, fun b' hb' => ?_, fun r r' k hr hr' e1 e2 => ?_, fun r b' hr hb' => ?_⟩, fun k hk => ?_, ⟨mm, hmm⟩, fun γ' s hc hB hd hf => ?_⟩
          · obtain ⟨m1, m2, m3, m4⟩ := O.mem { s with fxs := upd s.fxs k0 (some x0) }
            refine ⟨m1, m2, m3, fun r hr => ?_⟩
            rw [show (applyM (.fx k0 x0 :: fs') s) = applyM fs' { s with fxs := upd s.fxs k0 (some x0) } from rfl, m4 r (fun hh => hr (List.mem_cons_of_mem _ hh))]
            exact upd_other _ _ _ _ (fun e => hr (e ▸ List.mem_cons_self))
          · by_cases hrk : r = k0
            · subst hrk
              refine ⟨x0, fun s => ?_, ?_⟩
              · obtain ⟨m1, m2, m3, m4⟩ := O.mem { s with fxs := upd s.fxs r (some x0) }
                rw [show (applyM (.fx r x0 :: fs') s) = applyM fs' { s with fxs := upd s.fxs r (some x0) } from rfl, m4 r q0]
                exact upd_same _ _ _
              · simp only [if_pos]
                exact ⟨hx, n1, fun k hk => ⟨hk0 k hk, List.mem_append_left _ hk⟩⟩
            · rcases List.mem_cons.1 hr with hr | hr
              · injection hr with hr; exact absurd hr hrk
              · obtain ⟨x, k1, k2, k3, k4⟩ := O.fx r hr
                simp only [if_neg hrk]
                exact ⟨x, fun s => k1 { s with fxs := upd s.fxs k0 (some x0) }, k2, k3, fun k hk => ⟨(k4 k hk).1, List.mem_append_right _ (k4 k hk).2⟩⟩
          · rcases List.mem_cons.1 hb' with hb' | hb'
            · cases hb'
            · obtain ⟨k1, k2⟩ := O.bx b' hb'
              exact ⟨List.mem_append_right _ k1, k2⟩
          · by_cases a1 : r = k0 <;> by_cases a2 : r' = k0
            · rw [a1, a2]
            · simp only [if_pos a1] at e1
              simp only [if_neg a2] at e2
              rcases List.mem_cons.1 hr' with hr' | hr'
              · injection hr' with hr'; exact absurd hr' a2
              · obtain ⟨x, _, _, _, k4⟩ := O.fx r' hr'
                exact (n3 k e1 k (k4 k e2).2 rfl).elim
            · simp only [if_neg a1] at e1
              simp only [if_pos a2] at e2
              rcases List.mem_cons.1 hr with hr | hr
              · injection hr with hr; exact absurd hr a1
              · obtain ⟨x, _, _, _, k4⟩ := O.fx r hr
                exact (n3 k e2 k (k4 k e1).2 rfl).elim
            · simp only [if_neg a1] at e1
              simp only [if_neg a2] at e2
              rcases List.mem_cons.1 hr with hr | hr
              · injection hr with hr; exact absurd hr a1
              · rcases List.mem_cons.1 hr' with hr' | hr'
                · injection hr' with hr'; exact absurd hr' a2
                · exact O.ff r r' k hr hr' e1 e2
          · rcases List.mem_cons.1 hb' with hb' | hb'
            · cases hb'
            · by_cases a1 : r = k0
              · simp only [if_pos a1]
                exact fun hin => n3 _ hin _ (O.bx b' hb').1 rfl
              · simp only [if_neg a1]
                rcases List.mem_cons.1 hr with hr | hr
                · injection hr with hr; exact absurd hr a1
                · exact O.fb r b' hr hb'
          · obtain ⟨k1, k2, k3⟩ := hq2 k hk
            refine ⟨List.mem_append_right _ k1, fun b' hb' => ?_, fun r hr => ?_⟩
            · rcases List.mem_cons.1 hb' with hb' | hb'
              · cases hb'
              · exact k2 b' hb'
            · by_cases a1 : r = k0
              · simp only [if_pos a1]
                exact fun hin => n3 k hin k k1 rfl
              · simp only [if_neg a1]
                rcases List.mem_cons.1 hr with hr | hr
                · injection hr with hr; exact absurd hr a1
                · exact k3 r hr
          · obtain ⟨γ2, g2, c2⟩ := habs γ' s hc hB hd hf
            refine ⟨γ2, g2, fun m hm => ?_⟩
            obtain ⟨b', ys, k1, k2, k3⟩ := c2 m hm
            exact ⟨b', ys, k1, List.mem_cons_of_mem _ k2, k3⟩
  | .obj _ :: _, _, n, news, bs, fs, p, r, ha, hp, hn, hq => by simp [after] at ha
  | [], _ :: _, n, news, bs, fs, p, r, ha, hp, hn, hq => by simp [after] at ha
  | .box _ :: _, [], n, news, bs, fs, p, r, ha, hp, hn, hq => by simp [after] at ha
  | .fx _ :: _, [], n, news, bs, fs, p, r, ha, hp, hn, hq => by simp [after] at ha
  | .box _ :: _, .d _ :: _, n, news, bs, fs, p, r, ha, hp, hn, hq => by simp [after] at ha
  | .box _ :: _, .own _ _ :: _, n, news, bs, fs, p, r, ha, hp, hn, hq => by simp [after] at ha
  | .box _ :: _, .ptr _ _ :: _, n, news, bs, fs, p, r, ha, hp, hn, hq => by simp [after] at ha
  | .box _ :: _, .rp _ _ :: _, n, news, bs, fs, p, r, ha, hp, hn, hq => by simp [after] at ha
  | .box _ :: _, .rq _ _ :: _, n, news, bs, fs, p, r, ha, hp, hn, hq => by simp [after] at ha
  | .fx _ :: _, .rq _ _ :: _, n, news, bs, fs, p, r, ha, hp, hn, hq => by simp [after] at ha
  | .box _ :: _, .clo _ _ _ :: _, n, news, bs, fs, p, r, ha, hp, hn, hq => by simp [after] at ha
  | .box _ :: _, .mth _ _ :: _, n, news, bs, fs, p, r, ha, hp, hn, hq => by simp [after] at ha
  | .box _ :: _, .fx _ :: _, n, news, bs, fs, p, r, ha, hp, hn, hq => by simp [after] at ha
  | .box _ :: _, .ow _ _ :: _, n, news, bs, fs, p, r, ha, hp, hn, hq => by simp [after] at ha
  | .box _ :: _, .fd _ :: _, n, news, bs, fs, p, r, ha, hp, hn, hq => by simp [after] at ha
  | .fx _ :: _, .d _ :: _, n, news, bs, fs, p, r, ha, hp, hn, hq => by simp [after] at ha
  | .fx _ :: _, .own _ _ :: _, n, news, bs, fs, p, r, ha, hp, hn, hq => by simp [after] at ha
  | .fx _ :: _, .ptr _ _ :: _, n, news, bs, fs, p, r, ha, hp, hn, hq => by simp [after] at ha
  | .fx _ :: _, .rp _ _ :: _, n, news, bs, fs, p, r, ha, hp, hn, hq => by simp [after] at ha
  | .fx _ :: _, .clo _ _ _ :: _, n, news, bs, fs, p, r, ha, hp, hn, hq => by simp [after] at ha
  | .fx _ :: _, .mth _ _ :: _, n, news, bs, fs, p, r, ha, hp, hn, hq => by simp [after] at ha
  | .fx _ :: _, .fx _ :: _, n, news, bs, fs, p, r, ha, hp, hn, hq => by simp [after] at ha
  | .fx _ :: _, .ow _ _ :: _, n, news, bs, fs, p, r, ha, hp, hn, hq => by simp [after] at ha
  | .fx _ :: _, .io _ _ :: _, n, news, bs, fs, p, r, ha, hp, hn, hq => by simp [after] at ha
end
end Go.Ev
end
