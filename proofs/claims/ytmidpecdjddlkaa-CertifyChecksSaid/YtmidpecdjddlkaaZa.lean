/- Lemmas for the proofs of this seat's statements, part 1; each holds without conditions beyond its own premises. -/
import Derived.WalkKit
import Derived.KernelRfl
/- The interpreter: what a function of the translated program does to an abstract state, as far as its values can be told as numbers and lists. -/
namespace Go.Vi
set_option linter.unusedVariables false

/-- The kinds of what lies in a slice's elements. 'fz': a slice that is never written; 'ow': a slice that its element owns. -/
inductive Kd where
  | int (k : IntKind) | bool | val | pair (a b : Kd) | fz (e : TypeId) (k : Kd) | ow (e : TypeId) (k : Kd)
  deriving Inhabited
@[reducible] def Kd.T : Kd → Type
  | .int _ => Int
  | .bool => Bool
  | .val => Value
  | .pair a b => a.T × b.T
  | .fz _ k => List k.T
  | .ow _ k => Option (List k.T)
def Kd.w : Kd → Nat
  | .pair a b => a.w + b.w
  | _ => 1
def Kd.eq? : (a b : Kd) → Option (PLift (a = b))
  | .int j, .int k => if h : j = k then some ⟨by rw [h]⟩ else none
  | .bool, .bool => some ⟨rfl⟩
  | .val, .val => some ⟨rfl⟩
  | .pair a b, .pair c d => match Kd.eq? a c, Kd.eq? b d with
    | some ⟨h⟩, some ⟨g⟩ => some ⟨by rw [h, g]⟩
    | _, _ => none
  | .fz e a, .fz f b => if h : e = f then match Kd.eq? a b with
    | some ⟨g⟩ => some ⟨by rw [h, g]⟩
    | none => none
    else none
  | .ow e a, .ow f b => if h : e = f then match Kd.eq? a b with
    | some ⟨g⟩ => some ⟨by rw [h, g]⟩
    | none => none
    else none
  | _, _ => none

def pairs : List Kd → Option Kd
  | [] => none
  | [k] => some k
  | k :: r => match pairs r with
    | some q => some (.pair k q)
    | none => none
mutual
def kindOf (P : Program) : Nat → TypeId → Option Kd
  | 0, _ => none
  | n + 1, t => match P.underlying t with
    | some (.int k) => some (.int k)
    | some .bool => some .bool
    | some .string => some .val
    | some (.interface _) => some .val
    | some (.struct fs) => match kindsOf P n fs.toList with
      | some ks => pairs ks
      | none => none
    | some (.slice e) => match elemK P n e with
      | some k => some (.fz e k)
      | none => none
    | _ => none
def kindsOf (P : Program) : Nat → List Field → Option (List Kd)
  | 0, _ => none
  | _ + 1, [] => some []
  | n + 1, f :: r => match kindOf P n f.type, kindsOf P n r with
    | some k, some ks => some (k :: ks)
    | _, _ => none
def elemK (P : Program) : Nat → TypeId → Option Kd
  | 0, _ => none
  | n + 1, e => match P.underlying e with
    | some (.slice e2) => match elemK P n e2 with
      | some k => some (.ow e2 k)
      | none => none
    | _ => kindOf P n e
end

/-- How a slice is held: owned, lent or frozen, or for ever as it is. -/
inductive Md where
  | own | frz | pin
  deriving DecidableEq, Inhabited
/-- One cell of an abstract value. -/
inductive Lf where
  | sc (v : Value)
  | nil (e : TypeId) (k : Kd)
  | lst (m : Md) (e : TypeId) (k : Kd) (xs : List k.T)
  | view (id off : Nat)
  | addr (id off : Nat)
  | eaddr (id off i o : Nat)
  | faddr (k : Kd) (x : k.T) (o : Nat)
  | undef
inductive V where
  | one (l : Lf)
  | agg (ls : List Lf)
  | tup (vs : List (Bool × List Lf))
  | slot (virt : Bool) (ls : List Lf)

abbrev St := List (Nat × V)
def St.get : St → Nat → Option V
  | [], _ => none
  | (j, v) :: r, k => if j = k then some v else St.get r k
def St.put : St → Nat → V → St
  | [], k, v => [(k, v)]
  | (j, u) :: r, k, v => if k < j then (k, v) :: (j, u) :: r else if k = j then (k, v) :: r else (j, u) :: St.put r k v
def St.del : St → Nat → St
  | [], _ => []
  | (j, u) :: r, k => if j = k then St.del r k else (j, u) :: St.del r k
def St.set (σ : St) (k : Nat) : Option V → St
  | some v => σ.put k v
  | none => σ.del k

def Lf.refs : Lf → List Nat
  | .view id _ | .addr id _ | .eaddr id _ _ _ => [id]
  | _ => []
def refsL : List Lf → List Nat
  | [] => []
  | l :: r => l.refs ++ refsL r
def V.refs : V → List Nat
  | .one l => l.refs
  | .agg ls => refsL ls
  | .tup vs => refsL (vs.flatMap (·.2))
  | .slot _ ls => refsL ls
def Lf.hits (id off : Nat) : Lf → Bool
  | .view i o | .eaddr i o _ _ => i == id && o == off
  | _ => false
def V.hits (id off : Nat) : V → Bool
  | .one l => l.hits id off
  | .agg ls => ls.any (Lf.hits id off)
  | .tup vs => vs.any fun p => p.2.any (Lf.hits id off)
  | .slot _ _ => false
def St.kill (σ : St) (id off : Nat) : St := σ.filter fun p => !p.2.hits id off

/-- What an operation does, told in steps. -/
inductive M : Type 1 where
  | ret
  | fail
  | rd (k : Nat) (f : Option V → M)
  | wr (k : Nat) (v : Option V) (m : M)
  | opt {β : Type} (o : Option β) (f : β → M)
  | ite (b : Bool) (f : Bool → M)
  | call (f : FuncId) (args : St) (k : St → M)
  | kill (id off : Nat) (m : M)
  | rdS (k : Nat) (f : Option (Bool × List Bool) → M)
  | upd (id off : Nat) (e : TypeId) (k : Kd) (xs : List k.T) (m : M)
/-- The shape of an object: which of its cells own lists. -/
def Lf.isOwn : Lf → Bool
  | .lst .own _ _ _ => true
  | _ => false
def shapeV : Option V → Option (Bool × List Bool)
  | some (.slot virt ls) => some (virt, ls.map Lf.isOwn)
  | _ => none
/-- What it has read and written. -/
inductive Ac where
  | rd (k : Nat)
  | wr (k : Nat) (v : Option V) (old : List Nat)
  | kill (id off : Nat)
  | nk (id : Nat)
  | rs (k : Nat)
  | up (k : Nat) (v : V)
/-- What the value bears that is written over. -/
def St.olds (σ : St) (k : Nat) : List Nat := match σ.get k with
  | some v => v.refs
  | none => []
def Ac.app : Ac → St → St
  | .rd _, σ => σ
  | .wr k v _, σ => σ.set k v
  | .kill id off, σ => σ.kill id off
  | .nk _, σ => σ
  | .rs _, σ => σ
  | .up k v, σ => σ.set k (some v)
abbrev OrcK := {β : Type} → FuncId → St → (St → Option β) → Option β
def M.runK {β : Type} (orc : FuncId → St → (St → Option β) → Option β) : M → St → List Ac → (St → List Ac → Option β) → Option β
  | .ret, σ, l, K => K σ l
  | .fail, _, _, _ => none
  | .rd k f, σ, l, K => (f (σ.get k)).runK orc σ (.rd k :: l) K
  | .wr k v m, σ, l, K => m.runK orc (σ.set k v) (.wr k v (σ.olds k) :: l) K
  | .opt o f, σ, l, K => match o with
    | some x => (f x).runK orc σ l K
    | none => none
  | .ite b f, σ, l, K => match b with
    | true => (f true).runK orc σ l K
    | false => (f false).runK orc σ l K
  | .call f a k, σ, l, K => orc f a fun res => (k res).runK orc σ l K
  | .kill id off m, σ, l, K => match σ.any fun p => p.2.hits id off with
    | true => m.runK orc (σ.kill id off) (.kill id off :: l) K
    | false => m.runK orc σ (.nk id :: l) K
  | .rdS k f, σ, l, K => (f (shapeV (σ.get k))).runK orc σ (.rs k :: l) K
  | .upd id off e k xs m, σ, l, K => match σ.get (2 * id + 1) with
    | some (.slot virt ls) => match ls[off]? with
      | some (.lst .own e' k' _) => if e' = e then match Kd.eq? k' k with
        | some _ => m.runK orc (σ.put (2 * id + 1) (.slot virt (ls.set off (.lst .own e k xs)))) (.up (2 * id + 1) (.slot virt (ls.set off (.lst .own e k xs))) :: l) K
        | none => none
        else none
      | _ => none
    | _ => none

/-! ### Leaves and typed elements -/
def Kd.leafs : Kd → List Kd
  | .pair a b => a.leafs ++ b.leafs
  | k => [k]
def toL (m : Md) : (k : Kd) → k.T → List Lf
  | .int kk, n => [.sc (.int kk n)]
  | .bool, b => [.sc (.bool b)]
  | .val, v => [.sc v]
  | .pair a b, x => toL m a x.1 ++ toL m b x.2
  | .fz e k, xs => [.lst .frz e k xs]
  | .ow e k, o => match o with
    | some xs => [.lst m e k xs]
    | none => [.undef]
def castL {a b : Kd} (h : a = b) (xs : List a.T) : List b.T := h ▸ xs
def ofL : (k : Kd) → List Lf → Option k.T
  | .int kk, ls => match ls with
    | [.sc (.int j n)] => if j = kk then some n else none
    | _ => none
  | .bool, ls => match ls with
    | [.sc (.bool b)] => some b
    | _ => none
  | .val, ls => match ls with
    | [.sc v] => match v with
      | .agg _ | .tuple _ => none
      | v => some v
    | _ => none
  | .pair a b, ls => match ofL a (ls.take a.w), ofL b (ls.drop a.w) with
    | some x, some y => some (x, y)
    | _, _ => none
  | .fz e k, ls => match ls with
    | [.lst _ e' k' xs] => if e' = e then match Kd.eq? k' k with
      | some ⟨h⟩ => some (castL h xs)
      | none => none
      else none
    | _ => none
  | .ow e k, ls => match ls with
    | [.lst .own e' k' xs] => if e' = e then match Kd.eq? k' k with
      | some ⟨h⟩ => some (some (castL h xs))
      | none => none
      else none
    | _ => none

/-- A kind none of whose cells owns a list. -/
def Kd.noOw : Kd → Bool
  | .pair a b => a.noOw && b.noOw
  | .ow _ _ => false
  | _ => true
/-- The fuel for kinds. -/
def kfuel : Nat := 40
/-- A cell of nil slice's constant, told by its kind. -/
def fixLf : Kd → Lf → Lf
  | .fz e k, .sc (.slice none 0 0) => .nil e k
  | .ow e k, .sc (.slice none 0 0) => .nil e k
  | _, l => l
def fixLs : List Kd → List Lf → List Lf
  | k :: ks, l :: ls => fixLf k l :: fixLs ks ls
  | _, ls => ls
def V.leaves : V → List Lf
  | .one l => [l]
  | .agg ls => ls
  | _ => []
def V.fix (ks : List Kd) : V → V
  | .one l => match fixLs ks [l] with
    | [l'] => .one l'
    | _ => .one l
  | .agg ls => .agg (fixLs ks ls)
  | v => v
def leafsOf (P : Program) (t : TypeId) : List Kd := match kindOf P kfuel t with
  | some k => k.leafs
  | none => []
/-- The value of one cell. -/
def one? : Value → Option Value
  | .agg _ | .tuple _ => none
  | v => some v
def ones : List Value → Bool
  | [] => true
  | .agg _ :: _ | .tuple _ :: _ => false
  | _ :: r => ones r
/-- The zero value's cells. -/
def zeroL (P : Program) (t : TypeId) : Option (List Lf) :=
  match P.info? t, kindOf P kfuel t with
  | some i, some k => match i.zero with
    | some z => match ones z.cells.toList with
      | true => some (fixLs k.leafs (z.cells.toList.map .sc))
      | false => none
    | none => none
  | _, _ => none
def isAggT (P : Program) (t : TypeId) : Bool := match P.underlying t with
  | some (.struct _) => true
  | _ => false
def okT (P : Program) (t : TypeId) : Bool := match P.underlying t with
  | some (.array _ _) | none => false
  | _ => true
/-- A type whose values can be loaded. -/
def ldT (P : Program) (t : TypeId) : Bool := okT P t && P.cellsOf t != 0 && (isAggT P t || P.cellsOf t == 1)
def packV (P : Program) (t : TypeId) (ls : List Lf) : V := match isAggT P t, ls with
  | false, [l] => .one l
  | _, ls => .agg ls

/-- The value of a model's computation that looks at the program's types alone. -/
def semV {α : Type} (P : Program) : Sem α → Option α
  | .pure v => some v
  | .program k => semV P (k P)
  | _ => none

structure Cx where
  P : Program
  rc : List Nat
  pins : List Nat
  dsts : List Nat

def Lf.scal : Lf → Option Value
  | .sc v => some v
  | _ => none
def scalL : List Lf → Option (List Value)
  | [] => some []
  | l :: r => match l, scalL r with
    | .sc v, some vs => some (v :: vs)
    | _, _ => none
def V.scal : V → Option Value
  | .one (.sc v) => some v
  | _ => none
def valM (x : Operand) (f : V → M) : M :=
  match x with
  | .tmp t => .rd (2 * t) fun
    | some v => f v
    | none => .fail
  | .const v => match v with
    | .agg cs => match ones cs.toList with
      | true => f (.agg (cs.toList.map .sc))
      | false => .fail
    | .tuple _ => .fail
    | v => f (.one (.sc v))
  | .func g => f (.one (.sc (.func (.func g) #[] #[])))
  | .global _ => .fail
def scM (x : Operand) (f : Value → M) : M := valM x fun
  | .one (.sc v) => f v
  | _ => .fail
/-- The end of an operation: its result is put. -/
def putM (d : Option Tmp) (v : V) : M := match d with
  | some d => .wr (2 * d) (some v) .ret
  | none => .ret
def listM (id off : Nat) (f : Bool → List Lf → Md → (e : TypeId) → (k : Kd) → List k.T → M) : M :=
  .rd (2 * id + 1) fun
    | some (.slot virt ls) => match ls[off]? with
      | some (.lst m e k xs) => match m with
        | .pin => .fail
        | m => f virt ls m e k xs
      | _ => .fail
    | _ => .fail
/-- A leaf is taken to be stored: a whole list moves, or is frozen where it lies in a variable that stays. -/
def absorbM (mv : Bool) (l : Lf) (f : Lf → M) : M :=
  match l with
  | .sc v => f (.sc v)
  | .nil e k => f (.lst .own e k [])
  | .lst .own e k xs => .fail
  | .lst m e k xs => f (.lst m e k xs)
  | .view id off => listM id off fun virt ls m e k xs =>
    match m, mv || virt with
    | .own, true => .wr (2 * id + 1) (some (.slot virt (ls.set off .undef))) (f (.lst .own e k xs))
    | .own, false => .wr (2 * id + 1) (some (.slot virt (ls.set off (.lst .frz e k xs)))) (f (.lst .frz e k xs))
    | m, _ => f (.lst m e k xs)
  | .undef => .fail
  | _ => .fail
def absorbsM (mv : Bool) : List Lf → (List Lf → M) → M
  | [], f => f []
  | l :: r, f => absorbM mv l fun l' => absorbsM mv r fun r' => f (l' :: r')
/-- Lists that are stored kill what looked at their places. -/
def killsM (id : Nat) : Nat → List Lf → M → M
  | _, [], m => m
  | off, .lst .pin _ _ _ :: r, m => killsM id (off + 1) r m
  | off, .lst _ _ _ _ :: r, m => .kill id off (killsM id (off + 1) r m)
  | off, _ :: r, m => killsM id (off + 1) r m
def setRange {α : Type} (ls : List α) (off : Nat) (ns : List α) : List α := ls.take off ++ ns ++ ls.drop (off + ns.length)
def storeM (cx : Cx) (t : TypeId) (a v : V) : M :=
  let w := cx.P.cellsOf t
  match a with
  | .one (.addr id off) =>
    let ls := v.leaves
    if ls.length = w && w != 0 then
      absorbsM (cx.rc.contains id) ls fun ls' =>
        .rd (2 * id + 1) fun
          | some (.slot false cs) =>
            if off + w ≤ cs.length then
              .wr (2 * id + 1) (some (.slot false (setRange cs off ls')))
                (killsM id off ls' .ret)
            else .fail
          | _ => .fail
    else .fail
  | .one (.eaddr id off i o) =>
    let ls := v.leaves
    if ls.length = w && w != 0 then
      absorbsM false ls fun ls' =>
        listM id off fun virt cs m e k xs =>
          match m with
          | .own =>
            .opt xs[i]? fun x =>
              .opt (ofL k (setRange (toL .own k x) o ls')) fun y =>
                if o + w ≤ k.w then .upd id off e k (xs.set i y) .ret else .fail
          | _ => .fail
    else .fail
  | _ => .fail
/-- What a load gives for a cell of a variable. -/
def loadLf (id : Nat) (off : Nat) : Lf → Lf
  | .lst .own _ _ _ => .view id off
  | l => l
def loadLs (id : Nat) : Nat → List Lf → List Lf
  | _, [] => []
  | off, l :: r => loadLf id off l :: loadLs id (off + 1) r
def hasUndef : List Lf → Bool
  | [] => false
  | .undef :: _ => true
  | _ :: r => hasUndef r
def allTrue : List Bool → Bool
  | [] => true
  | b :: r => b && allTrue r
def viewLs (id : Nat) : Nat → Nat → List Lf
  | _, 0 => []
  | off, n + 1 => .view id off :: viewLs id (off + 1) n
def loadM (cx : Cx) (d : Option Tmp) (t : TypeId) (a : V) : M :=
  let w := cx.P.cellsOf t
  if ldT cx.P t = false then .fail else match a with
  | .one (.addr id off) => .rdS (2 * id + 1) fun
    | some (false, bs) =>
      let ws := (bs.drop off).take w
      if ws.length = w && allTrue ws then putM d (packV cx.P t (viewLs id off w)) else .rd (2 * id + 1) fun
      | some (.slot false cs) =>
        let ls := (cs.drop off).take w
        if ls.length = w then match hasUndef ls with
          | false => putM d (packV cx.P t (loadLs id off ls))
          | true => .fail
        else .fail
      | _ => .fail
    | _ => .fail
  | .one (.eaddr id off i o) => listM id off fun virt cs m e k xs =>
    .opt xs[i]? fun x =>
      if k.noOw then
        let ls := ((toL .frz k x).drop o).take w
        if ls.length = w then putM d (packV cx.P t ls) else .fail
      else .fail
  | .one (.faddr k x o) =>
    let ls := ((toL .frz k x).drop o).take w
    if ls.length = w then match hasUndef ls with
      | false => putM d (packV cx.P t ls)
      | true => .fail
    else .fail
  | _ => .fail
/-- A load of an element that owns a list takes it out. -/
def loadOwM (cx : Cx) (d : Option Tmp) (t : TypeId) (a : V) (els : M) : M :=
  match a, d with
  | .one (.eaddr id off i 0), some d => if isAggT cx.P t || !ldT cx.P t then els else listM id off fun virt cs m e k xs =>
    match k, xs with
    | .ow e2 k2, xs => match m with
      | .own => .opt xs[i]? fun x => .opt x fun ys =>
          .upd id off e (.ow e2 k2) (xs.set i none)
            (.wr (2 * d + 1) (some (.slot true [.lst .own e2 k2 ys])) (.wr (2 * d) (some (.one (.view d 0))) .ret))
      | _ => .opt xs[i]? fun x => .opt x fun ys => .wr (2 * d) (some (.one (.lst .frz e2 k2 ys))) .ret
    | _, _ => els
  | .one (.faddr (.ow e2 k2) x 0), some d => if isAggT cx.P t || !ldT cx.P t then els else .opt x fun ys => .wr (2 * d) (some (.one (.lst .frz e2 k2 ys))) .ret
  | _, _ => els
/-- Elements that are copied from a slice; elements that own lists move. -/
def srcM (v : V) (f : (e : TypeId) → (k : Kd) → List k.T → M) : M :=
  match v with
  | .one (.nil e k) => f e k []
  | .one (.lst m e k xs) => match m with
    | .own => .fail
    | _ => if k.noOw then f e k xs else .fail
  | .one (.view id off) => listM id off fun virt ls m e k xs =>
    if k.noOw then f e k xs else match m with
    | .own => .wr (2 * id + 1) (some (.slot virt (ls.set off .undef))) (f e k xs)
    | _ => .fail
  | _ => .fail
/-- The element's type is as wide as its kind. -/
def widthOk (P : Program) (e : TypeId) (k : Kd) : Bool := match P.info? e with
  | some i => match i.zero with
    | some z => i.size == k.w && 0 < k.w && z.cells.size == k.w && i.bytes ≤ 65536 && ones z.cells.toList
    | none => false
  | none => false
def appendM (cx : Cx) (d : Option Tmp) (t : TypeId) (a b : V) : M :=
  match d, cx.P.underlying t with
  | some d, some (.slice e) =>
    let go (k : Kd) (xs : List k.T) : M := if !widthOk cx.P e k then .fail else
      srcM b fun e' k' ys =>
        if e' = e then match Kd.eq? k' k with
          | some ⟨h⟩ =>
            .ite (decide (xs.length + ys.length ≤ 1000000000)) fun
              | true => .wr (2 * d + 1) (some (.slot true [.lst .own e k (xs ++ castL h ys)])) (.wr (2 * d) (some (.one (.view d 0))) .ret)
              | false => .fail
          | none => .fail
        else .fail
    match a with
    | .one (.nil e' k) => if e' = e then go k [] else .fail
    | .one (.view id off) => listM id off fun virt ls m e' k xs =>
      match m with
      | .own => if e' = e then .wr (2 * id + 1) (some (.slot virt (ls.set off .undef))) (go k xs) else .fail
      | _ => .fail
    | _ => .fail
  | _, _ => .fail
def zeroK (P : Program) (e : TypeId) (k : Kd) : Option k.T := match P.info? e with
  | some i => match i.zero with
    | some z => ofL k (((fixLs k.leafs (z.cells.toList.map .sc))).map fun
      | .nil e k => .lst .own e k []
      | l => l)
    | none => none
  | none => none
def makeM (cx : Cx) (d : Option Tmp) (t : TypeId) (n : Value) : M :=
  match d, cx.P.underlying t, n with
  | some d, some (.slice e), .int .i64 n => match elemK cx.P kfuel e with
    | some k => if !widthOk cx.P e k then .fail else match zeroK cx.P e k with
      | some z => .ite (decide (0 ≤ n)) fun
        | true => .ite (decide (n ≤ 1000000000)) fun
          | true => .wr (2 * d + 1) (some (.slot true [.lst .own e k (List.replicate n.toNat z)])) (.wr (2 * d) (some (.one (.view d 0))) .ret)
          | false => .fail
        | false => .fail
      | none => .fail
    | none => .fail
  | _, _, _ => .fail
def ofLs (k : Kd) : List (List Lf) → Option (List k.T)
  | [] => some []
  | l :: r => match ofL k l, ofLs k r with
    | some x, some xs => some (x :: xs)
    | _, _ => none
def partsM : List Operand → (List V → M) → M
  | [], f => f []
  | x :: r, f => valM x fun v => partsM r fun vs => f (v :: vs)
def absorbVsM (ks : List Kd) : List V → (List (List Lf) → M) → M
  | [], f => f []
  | v :: r, f => absorbsM false (v.fix ks).leaves fun l => absorbVsM ks r fun ls => f (l :: ls)
/-- '[]T{..}' with all elements given in their order. -/
def inOrder : Nat → List (Nat × Operand) → Bool
  | _, [] => true
  | n, (i, _) :: r => i == n && inOrder (n + 1) r
/-- The type's zero value is as wide as its size. -/
def widthOk' (P : Program) (e : TypeId) : Bool := match P.info? e with
  | some i => match i.zero with
    | some z => 0 < i.size && z.cells.size == i.size
    | none => false
  | none => false
def buildSliceM (cx : Cx) (d : Option Tmp) (t : TypeId) (n : Nat) (ps : List (Nat × Operand)) : M :=
  match d, cx.P.underlying t with
  | some d, some (.slice e) => match elemK cx.P kfuel e, inOrder 0 ps && ps.length == n && widthOk' cx.P e && decide (n * cx.P.cellsOf e ≤ 16777216) with
    | some k, true => if cx.P.cellsOf e ≠ k.w then .fail else partsM (ps.map (·.2)) fun vs => absorbVsM k.leafs vs fun lss =>
      .opt (ofLs k lss) fun xs => .wr (2 * d + 1) (some (.slot true [.lst .own e k xs])) (.wr (2 * d) (some (.one (.view d 0))) .ret)
    | _, _ => .fail
  | _, _ => .fail
def fieldsT (P : Program) (t : TypeId) : List Field := match P.underlying t with
  | some (.struct fs) => fs.toList
  | _ => []
def fillL (P : Program) (fs : List Field) : List Lf → List (Nat × V) → Option (List Lf)
  | ls, [] => some ls
  | ls, (i, v) :: r => match fs[i]? with
    | some f =>
      let ns := (v.fix (leafsOf P f.type)).leaves
      if ns.length = P.cellsOf f.type && f.offset + ns.length ≤ ls.length then fillL P fs (setRange ls f.offset ns) r else none
    | none => none
/-- The parts of a struct's literal are values that lie where they are said to. -/
def chksM : List V → M → M
  | [], m => m
  | v :: r, m => match v with
    | .one (.view id off) => listM id off fun _ _ _ _ _ _ => chksM r m
    | .one (.sc _) => chksM r m
    | .one (.nil _ _) => chksM r m
    | .one (.lst _ _ _ _) => chksM r m
    | .agg _ => chksM r m
    | _ => .fail
def buildM (cx : Cx) (d : Option Tmp) (t : TypeId) (ps : List (Nat × Operand)) : M :=
  match if (fieldsT cx.P t).all (fun f => (cx.P.info? f.type).isSome) && isAggT cx.P t then zeroL cx.P t else none with
  | some z => partsM (ps.map (·.2)) fun vs => chksM vs (match fillL cx.P (fieldsT cx.P t) z ((ps.map (·.1)).zip vs) with
    | some ls => putM d (.agg ls)
    | none => .fail)
  | none => .fail
/-- A pointer that points to what is there. -/
def atM (v : V) (f : Lf → M) : M :=
  match v with
  | .one (.addr id off) => .rdS (2 * id + 1) fun
    | some (false, _) => f (.addr id off)
    | _ => .fail
  | .one (.eaddr id off i o) => listM id off fun _ _ _ _ _ xs => .opt xs[i]? fun _ => f (.eaddr id off i o)
  | .one (.faddr k x o) => f (.faddr k x o)
  | _ => .fail
def fieldAddrM (cx : Cx) (d : Option Tmp) (t : TypeId) (v : V) (i : Nat) : M :=
  match (fieldsT cx.P t)[i]? with
  | some f => if cx.P.cellsOf f.type = 0 then .fail else atM v fun
    | .addr id off => putM d (.one (.addr id (off + f.offset)))
    | .eaddr id off j o => putM d (.one (.eaddr id off j (o + f.offset)))
    | .faddr k x o => putM d (.one (.faddr k x (o + f.offset)))
    | _ => .fail
  | none => .fail
def indexAddrM (cx : Cx) (d : Option Tmp) (t : TypeId) (x : V) (i : Value) : M :=
  match i, cx.P.underlying t with
  | .int _ i, some (.slice e) => .ite (decide (0 ≤ i)) fun
    | true => match x with
      | .one (.view id off) => listM id off fun virt ls m e' k xs =>
        if cx.P.cellsOf e = k.w then .opt xs[i.toNat]? fun _ => putM d (.one (.eaddr id off i.toNat 0)) else .fail
      | .one (.lst _ e' k xs) => if cx.P.cellsOf e = k.w then .opt xs[i.toNat]? fun x => putM d (.one (.faddr k x 0)) else .fail
      | _ => .fail
    | false => .fail
  | _, _ => .fail
def lenM (cx : Cx) (d : Option Tmp) (t : TypeId) (v : V) : M :=
  match cx.P.underlying t with
  | some (.slice _) => match v with
    | .one (.nil _ _) => putM d (.one (.sc (.int .i64 0)))
    | .one (.lst m _ _ xs) => match m with
      | .own => .fail
      | _ => putM d (.one (.sc (.int .i64 xs.length)))
    | .one (.view id off) => listM id off fun _ _ _ _ _ xs => putM d (.one (.sc (.int .i64 xs.length)))
    | _ => .fail
  | some .string => match v with
    | .one (.sc (.string s)) => putM d (.one (.sc (.int .i64 s.size)))
    | _ => .fail
  | _ => .fail
/-- The bounds of 'xs[lo:hi]', for a length. -/
def bndLo (lo : Option Value) (h : Nat) (f : Nat → M) : M :=
  match lo with
  | none => f 0
  | some (.int _ l) => .ite (decide (0 ≤ l)) fun
    | true => .ite (decide (l.toNat ≤ h)) fun
      | true => f l.toNat
      | false => .fail
    | false => .fail
  | _ => .fail
def bndHi (hi : Option Value) (n : Nat) (f : Nat → M) : M :=
  match hi with
  | none => f n
  | some (.int _ h) => .ite (decide (0 ≤ h)) fun
    | true => .ite (decide (h.toNat ≤ n)) fun
      | true => f h.toNat
      | false => .fail
    | false => .fail
  | _ => .fail
/-- 'xs[lo:hi]' -/
def sliceM (cx : Cx) (d : Option Tmp) (t : TypeId) (v : V) (lo hi : Option Value) : M :=
  match cx.P.underlying t with
  | some (.slice et) => match v, d with
   | .one (.lst m e k xs), d => match m with
     | .own => .fail
     | m => if cx.P.cellsOf et = k.w then bndHi hi xs.length fun h => bndLo lo h fun l => putM d (.one (.lst m e k ((xs.take h).drop l))) else .fail
   | .one (.view id off), some d => listM id off fun virt ls m e k xs =>
    match m, lo with
    | .own, none => if cx.P.cellsOf et = k.w then bndHi hi xs.length fun h =>
      .wr (2 * id + 1) (some (.slot virt (ls.set off .undef)))
        (.wr (2 * d + 1) (some (.slot true [.lst .own e k (xs.take h)])) (.wr (2 * d) (some (.one (.view d 0))) .ret)) else .fail
    | _, _ => .fail
   | _, _ => .fail
  | _ => .fail
def scalarM (d : Option Tmp) : Option Value → M
  | some v => match v with
    | .agg _ | .tuple _ => .fail
    | v => putM d (.one (.sc v))
  | none => .fail
def isCmp : BinOp → Bool
  | .eql | .neq => true
  | _ => false
/-- '==' of structs of whole numbers and bools. -/
def eqF (P : Program) : Nat → List Field → List Value → List Value → Option Bool
  | _, [], [], [] => some true
  | n, f :: fs, u :: us, v :: vs => if f.name != "_" && f.offset == n then match P.underlying f.type, u, v, eqF P (n + 1) fs us vs with
    | some (.int _), .int j a, .int k b, some q => if j = k then some ((a == b) && q) else none
    | some .bool, .bool a, .bool b, some q => some ((a == b) && q)
    | _, _, _, _ => none
    else none
  | _, _, _, _ => none
def binM (cx : Cx) (d : Option Tmp) (op : BinOp) (t : TypeId) (x y : Operand) : M :=
  valM x fun a => valM y fun b =>
    match a, b with
    | .one (.sc u), .one (.sc v) => match op, u, v with
      | .quo, .int j p, .int k q => if j = k then .ite (decide (q = 0)) fun
        | true => .fail
        | false => putM d (.one (.sc (.int j (j.wrap (p.tdiv q))))) else .fail
      | .rem, .int j p, .int k q => if j = k then .ite (decide (q = 0)) fun
        | true => .fail
        | false => putM d (.one (.sc (.int j (p.tmod q)))) else .fail
      | .shl, .int j p, .int _ q => .ite (decide (q < 0)) fun
        | true => .fail
        | false => putM d (.one (.sc (.int j (j.wrap (p * 2 ^ (min q.toNat j.bits))))))
      | .shr, .int j p, .int _ q => .ite (decide (q < 0)) fun
        | true => .fail
        | false => putM d (.one (.sc (.int j (p.fdiv (2 ^ (min q.toNat j.bits))))))
      | op, u, v => scalarM d (semV cx.P (do eqGuard op t x y u v; binOp op t u v))
    | .agg us, .agg vs => match scalL us, scalL vs with
      | some us, some vs => if !cx.P.stoodInHeld t && !cx.P.eqGuardType cx.P.depth t && isAggT cx.P t then match eqF cx.P 0 (fieldsT cx.P t) us vs with
        | some b => match op with
          | .eql => putM d (.one (.sc (.bool b)))
          | .neq => putM d (.one (.sc (.bool (!b))))
          | _ => .fail
        | none => .fail
        else .fail
      | _, _ => .fail
    | _, _ => .fail
def stripMd : Md → Md
  | .own => .frz
  | m => m
/-- An argument as the callee gets it: its value, its object, and whether something is lent. -/
def argLfM (pin : Bool) (l : Lf) (f : Bool → Lf → M) : M :=
  match l with
  | .sc v => f false (.sc v)
  | .nil e k => f false (.lst .frz e k [])
  | .lst .own _ _ _ => .fail
  | .lst .frz e k xs => f false (.lst .frz e k xs)
  | .lst .pin e k xs => f false (.lst (if pin then .pin else .frz) e k xs)
  | .view id off => listM id off fun _ _ m e k xs => match m with
    | .own => f true (.lst .frz e k xs)
    | .frz => f false (.lst .frz e k xs)
    | .pin => f false (.lst (if pin then .pin else .frz) e k xs)
  | _ => .fail
def argLsM (pin : Bool) : List Lf → (Bool → List Lf → M) → M
  | [], f => f false []
  | l :: r, f => argLfM pin l fun b l' => argLsM pin r fun b' r' => f (b || b') (l' :: r')
/-- Variables whose addresses are handed over: (argument, object, cells). -/
def handM : Nat → List V → (List (Nat × Nat × List Lf) → M) → M
  | _, [], f => f []
  | i, .one (.addr id 0) :: r, f => .rd (2 * id + 1) fun
    | some (.slot false ls) => .wr (2 * id + 1) none (handM (i + 1) r fun hs => f ((i, id, ls) :: hs))
    | _ => .fail
  | i, _ :: r, f => handM (i + 1) r f
/-- The arguments' values as the callee gets them, and whether something is lent. -/
def valsM (pin : Bool) : Nat → List V → (St → Bool → M) → M
  | _, [], f => f [] false
  | i, v :: r, f => match v with
    | .one (.addr _ 0) => valsM pin (i + 1) r fun st b => f ((2 * i, .one (.addr i 0)) :: st) b
    | .one l => argLfM pin l fun b l' => valsM pin (i + 1) r fun st b' => f ((2 * i, .one l') :: st) (b || b')
    | .agg ls => argLsM pin ls fun b ls' => valsM pin (i + 1) r fun st b' => f ((2 * i, .agg ls') :: st) (b || b')
    | _ => .fail
def entry (st : St) : List (Nat × Nat × List Lf) → St
  | [] => st
  | (i, _, ls) :: r => (entry st r).put (2 * i + 1) (.slot false ls)
def Kd.noFz : Kd → Bool
  | .pair a b => a.noFz && b.noFz
  | .fz _ _ => false
  | .ow _ k => k.noFz
  | _ => true
def Lf.noFz : Lf → Bool
  | .lst .frz _ _ _ => false
  | .lst .own _ k _ => k.noFz
  | .faddr _ _ _ => false
  | _ => true
def V.noFz : V → Bool
  | .one l => l.noFz
  | .agg ls => ls.all Lf.noFz
  | .tup vs => vs.all fun p => p.2.all Lf.noFz
  | .slot _ ls => ls.all Lf.noFz
def hasOwn : List Lf → Bool
  | [] => false
  | .lst .own _ _ _ :: _ => true
  | _ :: r => hasOwn r
/-- The objects come back. -/
def backM (res : St) : List (Nat × Nat × List Lf) → M → M
  | [], m => m
  | (i, id, _) :: r, m => match res.get (2 * (i + 1)), res.get (2 * (i + 1) + 1) with
    | some (.one (.addr j 0)), some (.slot false ls) => if j = i + 1 then .wr (2 * id + 1) (some (.slot false ls)) (killsM id 0 ls (backM res r m)) else .fail
    | _, _ => .fail
def Lf.rename (d : Nat) : Lf → Option Lf
  | .sc v => some (.sc v)
  | .view 0 o => some (.view d o)
  | .addr 0 o => some (.addr d o)
  | .lst m e k xs => match m with
    | .own => none
    | m => some (.lst m e k xs)
  | _ => none
def renameL (d : Nat) : List Lf → Option (List Lf)
  | [] => some []
  | l :: r => match l.rename d, renameL d r with
    | some l', some r' => some (l' :: r')
    | _, _ => none
def renameT (d : Nat) : List (Bool × List Lf) → Option (List (Bool × List Lf))
  | [] => some []
  | (b, ls) :: r => match renameL d ls, renameT d r with
    | some ls', some r' => some ((b, ls') :: r')
    | _, _ => none
def V.rename (d : Nat) : V → Option V
  | .one l => match l.rename d with
    | some l' => some (.one l')
    | none => none
  | .agg ls => match renameL d ls with
    | some ls' => some (.agg ls')
    | none => none
  | .tup vs => match renameT d vs with
    | some vs' => some (.tup vs')
    | none => none
  | _ => none
def fixVs (P : Program) : List V → List TypeId → List V
  | v :: vs, t :: ts => v.fix (leafsOf P t) :: fixVs P vs ts
  | vs, _ => vs
/-- Lists that are handed over as they will be for ever. -/
def frzLfM (l : Lf) (f : Lf → M) : M :=
  match l with
  | .view id off => listM id off fun virt ls m e k xs => match m with
    | .own => .wr (2 * id + 1) (some (.slot virt (ls.set off (.lst .frz e k xs)))) (f (.lst .frz e k xs))
    | _ => f (.view id off)
  | l => f l
def frzLsM : List Lf → (List Lf → M) → M
  | [], f => f []
  | l :: r, f => frzLfM l fun l' => frzLsM r fun r' => f (l' :: r')
def frzVsM : List V → (List V → M) → M
  | [], f => f []
  | v :: r, f => match v with
    | .one l => frzLfM l fun l' => frzVsM r fun r' => f (.one l' :: r')
    | .agg ls => frzLsM ls fun ls' => frzVsM r fun r' => f (.agg ls' :: r')
    | v => frzVsM r fun r' => f (v :: r')
def callM' (cx : Cx) (d : Option Tmp) (f : FuncId) (vs : List V) : M :=
  handM 0 vs fun hs => valsM (cx.pins.contains f) 0 vs fun st lent =>
    .call f (entry st hs) fun res =>
      match !lent || res.all fun p => p.2.noFz with
      | true => backM res hs (match d with
        | some d => match res.get 0 with
          | some v => match v.rename d with
            | some v' => .wr (2 * d + 1) (res.get 1) (.wr (2 * d) (some v') .ret)
            | none => .fail
          | none => .fail
        | none => .ret)
      | false => .fail
/-- A call; of the functions that are named with 1000000 more the lists are frozen. -/
def callM (cx : Cx) (d : Option Tmp) (f : FuncId) (vs : List V) : M :=
  if cx.pins.contains (1000000 + f) then frzVsM vs (callM' cx d f) else callM' cx d f vs
def scalsM : List Operand → (List Value → M) → M
  | [], f => f []
  | x :: r, f => scM x fun v => scalsM r fun vs => f (v :: vs)
def builtinM (cx : Cx) (d : Option Tmp) (b : Builtin) (args : List Operand) (ts : List TypeId) : M :=
  match b, args, ts with
  | .len, [x], [t] => valM x fun v => lenM cx d t (v.fix (leafsOf cx.P t))
  | .append, [x, y], [t, u] => if t = u then valM x fun a => valM y fun b => appendM cx d t (a.fix (leafsOf cx.P t)) (b.fix (leafsOf cx.P t)) else .fail
  | .max, xs, _ => scalsM xs fun vs => scalarM d (semV cx.P (Builtin.max_ #[] 0 vs.toArray))
  | .min, xs, _ => scalsM xs fun vs => scalarM d (semV cx.P (Builtin.min_ #[] 0 vs.toArray))
  | _, _, _ => .fail
def allUndef : List Lf → Bool
  | [] => true
  | .undef :: r => allUndef r
  | _ => false
/-- A variable's new value: a list that was made here gets the variable's number. -/
def assignM (cx : Cx) (d : Option Tmp) (v : V) : M :=
  match v, d with
  | .one (.nil e k), some d => .wr (2 * d + 1) (some (.slot true [.lst .own e k []])) (.wr (2 * d) (some (.one (.view d 0))) .ret)
  | .one (.view id 0), some d => match cx.dsts.contains id with
    | true => .rd (2 * id + 1) fun
      | some (.slot true (.lst .own e k xs :: r)) => match allUndef r with
        | true => .wr (2 * id + 1) none (.wr (2 * d + 1) (some (.slot true [.lst .own e k xs])) (.wr (2 * d) (some (.one (.view d 0))) .ret))
        | false => .fail
      | _ => .fail
    | false => putM (some d) v
  | v, d => putM d v
def extractV : V → Nat → Option V
  | .tup vs, i => match vs[i]? with
    | some (true, ls) => some (.agg ls)
    | some (false, [l]) => some (.one l)
    | _ => none
  | _, _ => none
def fieldV (P : Program) (t : TypeId) (i : Nat) : V → Option V
  | .agg ls => match (fieldsT P t)[i]? with
    | some f =>
      let ns := (ls.drop f.offset).take (P.cellsOf f.type)
      if ns.length = P.cellsOf f.type && ldT P f.type then some (packV P f.type ns) else none
    | none => none
  | _ => none
def optM (d : Option Tmp) : Option V → M
  | some v => putM d v
  | none => .fail
def bv : V → Option Bool
  | .one (.sc (.bool b)) => some b
  | _ => none
def opM (cx : Cx) (o : Oper) : M :=
  match o.op with
  | .move x => valM x fun v => putM o.dst v
  | .assign x => valM x fun v => assignM cx o.dst (v.fix (leafsOf cx.P o.type))
  | .pick c a b => valM c fun c => valM a fun a => valM b fun b => match bv c with
    | some c => match bv a, bv b with
      | some a, some b => putM o.dst (.one (.sc (.bool (match c with | true => a | false => b))))
      | _, _ => .ite c fun
        | true => putM o.dst a
        | false => putM o.dst b
    | none => .fail
  | .alloc t => match o.dst, zeroL cx.P t with
    | some d, some z => absorbsM true z fun ls => .wr (2 * d + 1) (some (.slot false ls)) (.wr (2 * d) (some (.one (.addr d 0))) .ret)
    | _, _ => .fail
  | .box t x => match o.dst with
    | some d => valM x fun v => absorbsM (cx.rc.contains d) (v.fix (leafsOf cx.P t)).leaves fun ls =>
        if ls.length = cx.P.cellsOf t && cx.P.cellsOf t != 0 then .wr (2 * d + 1) (some (.slot false ls)) (.wr (2 * d) (some (.one (.addr d 0))) .ret) else .fail
    | none => .fail
  | .build t ps => buildM cx o.dst t ps.toList
  | .buildSlice t n ps => buildSliceM cx o.dst t n ps.toList
  | .load t a => valM a fun v => loadOwM cx o.dst t v (loadM cx o.dst t v)
  | .store t a x => match o.dst with
    | none => valM a fun a => valM x fun v => storeM cx t a (v.fix (leafsOf cx.P t))
    | some _ => .fail
  | .nilCheck x => valM x fun v => atM v fun l => putM o.dst (.one l)
  | .binOp op t x y _ => binM cx o.dst op t x y
  | .unOp op _ x => scM x fun v => scalarM o.dst (semV cx.P (Op.unary op v))
  | .convert s t x => scM x fun v => scalarM o.dst (semV cx.P (convert s t v))
  | .makeInterface t x => scM x fun v => scalarM o.dst (semV cx.P (Instr.makeInterface t v))
  | .makeSlice t l c => scM l fun n => scM c fun m => match n, m with
    | .int .i64 a, .int .i64 b => .ite (decide (a = b)) fun
      | true => makeM cx o.dst t n
      | false => .fail
    | _, _ => .fail
  | .slice t x lo hi none => valM x fun v => match lo, hi with
    | none, none => sliceM cx o.dst t v none none
    | some l, none => scM l fun l => sliceM cx o.dst t v (some l) none
    | none, some h => scM h fun h => sliceM cx o.dst t v none (some h)
    | some l, some h => scM l fun l => scM h fun h => sliceM cx o.dst t v (some l) (some h)
  | .fieldAddr t x i => valM x fun v => fieldAddrM cx o.dst t v i
  | .field t x i => valM x fun v => optM o.dst (fieldV cx.P t i v)
  | .indexAddr t x i => valM x fun v => scM i fun i => indexAddrM cx o.dst t v i
  | .extract x i => valM x fun v => optM o.dst (extractV v i)
  | .call c => match c.callee with
    | .value (.func f) => partsM c.args.toList fun vs => callM cx o.dst f (fixVs cx.P vs c.argTypes.toList)
    | .builtin b => builtinM cx o.dst b c.args.toList c.argTypes.toList
    | _ => .fail
  | _ => .fail

/-! ### Regions and code -/
/-- An operation with its guard. -/
def fullM (cx : Cx) (ops : Array Oper) (o : Oper) : M :=
  match o.guard with
  | none => opM cx o
  | some (j, want) => match (ops[j]?).bind (·.dst) with
    | some t => .rd (2 * t) fun
      | some (.one (.sc (.bool g))) => .ite g fun
        | true => match want with
          | true => opM cx o
          | false => putM o.dst (.tup [])
        | false => match want with
          | true => putM o.dst (.tup [])
          | false => opM cx o
      | some (.tup []) => putM o.dst (.tup [])
      | _ => .fail
    | none => .fail
def opsK {β : Type} (orc : FuncId → St → (St → Option β) → Option β) (cx : Cx) (ops : Array Oper) :
    List Oper → St → List (List Ac) → (St → List (List Ac) → Option β) → Option β
  | [], σ, ls, K => K σ ls
  | o :: r, σ, ls, K => match o.guard with
    | none => (opM cx o).runK orc σ [] fun σ' l => opsK orc cx ops r σ' (l :: ls) K
    | some (j, _) => match (ops[j]?).bind (·.dst) with
      | some t => match σ.get (2 * t) with
        | some (.one (.sc (.bool g))) => match g with
          | true => (fullM cx ops o).runK orc (σ.put (2 * t) (.one (.sc (.bool true)))) [] fun σ' l => opsK orc cx ops r σ' (l :: ls) K
          | false => (fullM cx ops o).runK orc (σ.put (2 * t) (.one (.sc (.bool false)))) [] fun σ' l => opsK orc cx ops r σ' (l :: ls) K
        | some (.tup []) => (fullM cx ops o).runK orc σ [] fun σ' l => opsK orc cx ops r σ' (l :: ls) K
        | _ => none
      | none => none
def Ac.fkey : Ac → List Nat
  | .rd k => [k]
  | .wr k _ _ => [k]
  | .up k _ => [k]
  | _ => []
def Ac.skey : Ac → List Nat
  | .rs k => [k]
  | _ => []
def Ac.isKill : Ac → Bool
  | .kill _ _ => true
  | _ => false
def Ac.nkey : Ac → List Nat
  | .nk id => [id]
  | _ => []
def Ac.olds : Ac → List Nat
  | .wr _ _ old => old
  | _ => []
def Ac.wkey : Ac → List Nat
  | .wr k _ _ => [k]
  | _ => []
def Ac.ukey : Ac → List Nat
  | .up k _ => [k]
  | _ => []
def Ac.refs : Ac → List Nat
  | .wr _ (some v) _ => v.refs
  | .up _ v => v.refs
  | _ => []
def fkeysOf (l : List Ac) : List Nat := l.flatMap Ac.fkey
def skeysOf (l : List Ac) : List Nat := l.flatMap Ac.skey
def wkeysOf (l : List Ac) : List Nat := l.flatMap Ac.wkey
def ukeysOf (l : List Ac) : List Nat := l.flatMap Ac.ukey
def nkeysOf (l : List Ac) : List Nat := l.flatMap Ac.nkey
def oldsOf (l : List Ac) : List Nat := l.flatMap Ac.olds
def arefs (l : List Ac) : List Nat := l.flatMap Ac.refs
def anyIn (xs ys : List Nat) : Bool := xs.any fun x => ys.contains x
/-- What two operations must not share if they may stand in either order. -/
structure Foot where
  fkeys : List Nat
  skeys : List Nat
  wkeys : List Nat
  ukeys : List Nat
  refs : List Nat
  nkeys : List Nat
  olds : List Nat
  kills : Bool
def footOf (l : List Ac) : Foot := ⟨fkeysOf l, skeysOf l, wkeysOf l, ukeysOf l, arefs l, nkeysOf l, oldsOf l, l.any Ac.isKill⟩
def comm (a b : Foot) : Bool :=
  !a.kills && !b.kills && !anyIn a.wkeys b.fkeys && !anyIn a.wkeys b.skeys && !anyIn a.ukeys b.fkeys && !anyIn b.wkeys a.fkeys && !anyIn b.wkeys a.skeys && !anyIn b.ukeys a.fkeys &&
  !anyIn a.nkeys b.refs && !anyIn a.nkeys b.olds && !anyIn b.nkeys a.refs && !anyIn b.nkeys a.olds
def dstL (o : Oper) : List Nat := match o.dst with
  | some d => [d]
  | none => []
/-- Which operations lie before each one, as bits: direct ones, and theirs. -/
def bitsOf : List Nat → List Nat → Nat
  | _, [] => 0
  | acc, j :: r => 2 ^ j ||| acc.getD j 0 ||| bitsOf acc r
def onsOf (o : Oper) : List Nat := (o.after.toList.filter fun e => Region.binds .any e).map (·.on)
def clos : Nat → List Oper → List Nat → List Nat
  | _, [], acc => acc
  | i, o :: r, acc => clos (i + 1) r (acc ++ [bitsOf acc (onsOf o)])
def onsOk : Nat → List Oper → Bool
  | _, [] => true
  | i, o :: r => (onsOf o).all (· < i) && onsOk (i + 1) r
/-- Of an operation (its number, result and log) and all later ones: what is written bears no later result; those that are not ordered commute. -/
def pairOk (draw : Bool) (i : Nat) (d : List Nat) (a : Foot) : List (Nat × Nat × List Nat × Foot) → Bool
  | [] => true
  | (j, before, e, b) :: r =>
    !anyIn e a.refs && (!draw || before.testBit i || (comm a b && !anyIn d b.refs)) && pairOk draw i d a r
def pairsOk (draw : Bool) : List (Nat × Nat × List Nat × Foot) → Bool
  | [] => true
  | (i, _, d, a) :: r => pairOk draw i d a r && pairsOk draw r
def zip4 : Nat → List Nat → List Oper → List (List Ac) → List (Nat × Nat × List Nat × Foot)
  | i, b :: bs, o :: os, l :: ls => (i, b, dstL o, footOf l) :: zip4 (i + 1) bs os ls
  | _, _, _, _ => []
def okLogs (draw : Bool) (ops : List Oper) (ls : List (List Ac)) : Bool :=
  ls.length == ops.length && onsOk 0 ops && pairsOk draw (zip4 0 (clos 0 ops []) ops ls)
def St.purge (σ : St) (D : List Nat) : St := σ.filter fun p => if p.1 % 2 = 0 then !anyIn p.2.refs D else !D.contains (p.1 / 2)
def tempRefs : St → List Nat
  | [] => []
  | (k, v) :: r => if k % 2 = 0 then v.refs ++ tempRefs r else tempRefs r
def St.keep (σ : St) (ts : List Nat) : St := σ.filter fun p => p.1 % 2 == 1 || ts.contains (p.1 / 2)
def St.gc (σ : St) : St := let ids := tempRefs σ; σ.filter fun p => p.1 % 2 == 0 || ids.contains (p.1 / 2)
def St.clean (σ : St) : Option (List Nat) → St
  | some ts => (σ.keep ts).gc
  | none => σ
/-- Which temps are of use behind a region. -/
abbrev Live := List (Nat × List Nat)
def Live.at (L : Live) (id : Nat) : Option (List Nat) := match L with
  | [] => none
  | (i, ts) :: r => if i = id then some ts else Live.at r id
structure Fx where
  P : Program
  rc : List Nat
  pins : List Nat
  live : Live
  nt : Nat
  ptrs : List Nat
def dstsOf (ops : List Oper) : List Nat := ops.flatMap dstL
/-- An object's name is another one. -/
def Lf.ren (a b : Nat) : Lf → Lf
  | .view id off => .view (if id = a then b else id) off
  | .addr id off => .addr (if id = a then b else id) off
  | .eaddr id off i o => .eaddr (if id = a then b else id) off i o
  | l => l
def V.ren (a b : Nat) : V → V
  | .one l => .one (l.ren a b)
  | .agg ls => .agg (ls.map (Lf.ren a b))
  | .tup vs => .tup (vs.map fun p => (p.1, p.2.map (Lf.ren a b)))
  | .slot virt ls => .slot virt ls
def St.ren (σ : St) (a b : Nat) : St := match σ.get (2 * a + 1) with
  | some s => St.put ((σ.del (2 * a + 1)).map fun p => (p.1, p.2.ren a b)) (2 * b + 1) s
  | none => σ
/-- Objects whose names a region gives anew are named otherwise before it, if they are of use. -/
def St.lift (nt : Nat) : List Nat → St → St
  | [], σ => σ
  | d :: r, σ => match σ.get (2 * d + 1) with
    | none => St.lift nt r σ
    | some _ => match (tempRefs σ).contains d, (tempRefs σ).contains (d + nt), σ.get (2 * (d + nt) + 1) with
      | true, false, none => St.lift nt r (σ.ren d (d + nt))
      | _, _, _ => St.lift nt r σ
def regionK {β : Type} (orc : FuncId → St → (St → Option β) → Option β) (fx : Fx) (id : Nat) (ops : Array Oper) (draw : Bool) (σ : St) (K : St → Option β) : Option β :=
  let D := dstsOf ops.toList
  if D.all (fun d => decide (d < fx.nt) && !fx.ptrs.contains d) then
    opsK orc ⟨fx.P, fx.rc, fx.pins, D⟩ ops ops.toList ((St.lift fx.nt D σ).purge D) [] fun σ' ls =>
      match okLogs draw ops.toList ls.reverse with
      | true => K (σ'.clean (fx.live.at id))
      | false => none
  else none
def keyOf : Code → Nat
  | .region id _ _ => id
  | .seq a _ => keyOf a
  | .block id _ => 1000 + id
  | _ => 0
def codeK {β : Type} (orc : FuncId → St → (St → Option β) → Option β) (lp : Nat → St → (Exit → St → Option β) → Option β) (fx : Fx) :
    Code → St → (Exit → St → Option β) → Option β
  | .skip, σ, K => K .normal σ
  | .region id ops draw, σ, K => regionK orc fx id ops draw σ fun σ' => K .normal σ'
  | .seq a b, σ, K => codeK orc lp fx a σ fun e σ' => match e with
    | .normal => codeK orc lp fx b σ' K
    | e => K e σ'
  | .cond c a b, σ, K => match c with
    | .tmp t => match σ.get (2 * t) with
      | some (.one (.sc (.bool g))) => match g with
        | true => codeK orc lp fx a σ K
        | false => codeK orc lp fx b σ K
      | _ => none
    | _ => none
  | .block id b, σ, K => codeK orc lp fx b σ fun e σ' => match e with
    | .exit i => if i = id then K .normal σ' else K (.exit i) σ'
    | e => K e σ'
  | .loop b, σ, K => lp (keyOf b) σ K
  | .exit id, σ, K => K (.exit id) σ
  | .ret, σ, K => K .ret σ
  | _, _, _ => none
def loopsOf : Code → List Code
  | .seq a b => loopsOf a ++ loopsOf b
  | .cond _ a b => loopsOf a ++ loopsOf b
  | .block _ b => loopsOf b
  | .loop b => [b]
  | _ => []

/-! ### A function's end -/
/-- A result is taken out: its leaf, its value over object 0, what lies there. -/
def outLf (σ : St) (n : Nat) : Lf → Option (St × Lf × Lf)
  | .sc v => some (σ, .sc v, .undef)
  | .nil e k => some (σ, .view 0 n, .lst .own e k [])
  | .lst .own _ _ _ => none
  | .lst m e k xs => some (σ, .lst m e k xs, .undef)
  | .view id off => match σ.get (2 * id + 1) with
    | some (.slot virt ls) => match ls[off]? with
      | some (.lst .own e k xs) => some (σ.put (2 * id + 1) (.slot virt (ls.set off .undef)), .view 0 n, .lst .own e k xs)
      | some (.lst .frz e k xs) => some (σ, .lst .frz e k xs, .undef)
      | _ => none
    | _ => none
  | _ => none
def outLs (σ : St) : Nat → List Lf → Option (St × List Lf × List Lf)
  | _, [] => some (σ, [], [])
  | n, l :: r => match outLf σ n l with
    | some (σ', v, o) => match outLs σ' (n + 1) r with
      | some (σ'', vs, os) => some (σ'', v :: vs, o :: os)
      | none => none
    | none => none
def cellLs (id : Nat) : Nat → List Lf → List Lf
  | _, [] => []
  | off, l :: r => loadLf id off l :: cellLs id (off + 1) r
/-- The values of the results' variables. -/
def resV (P : Program) (σ : St) : ResultVar → Option (Bool × List Lf)
  | .tmp t => match σ.get (2 * t) with
    | some (.one l) => some (false, [l])
    | some (.agg ls) => some (true, ls)
    | _ => none
  | .cell t ty => match σ.get (2 * t) with
    | some (.one (.addr id 0)) => match σ.get (2 * id + 1) with
      | some (.slot false ls) => if ldT P ty && decide (ls.length = P.cellsOf ty) && !hasUndef ls then some (isAggT P ty, cellLs id 0 ls) else none
      | _ => none
    | _ => none
def resVs (P : Program) (σ : St) : List ResultVar → Option (List (Bool × List Lf))
  | [] => some []
  | r :: rs => match resV P σ r, resVs P σ rs with
    | some v, some vs => some (v :: vs)
    | _, _ => none
def outVs (σ : St) : Nat → List (Bool × List Lf) → Option (St × List (Bool × List Lf) × List Lf)
  | _, [] => some (σ, [], [])
  | n, (b, ls) :: r => match outLs σ n ls with
    | some (σ', vs, os) => match outVs σ' (n + ls.length) r with
      | some (σ'', ws, ps) => some (σ'', (b, vs) :: ws, os ++ ps)
      | none => none
    | none => none
/-- The objects that were handed over. -/
def handed (σ : St) : List Nat → Option St
  | [] => some []
  | i :: r => match σ.get (2 * i), σ.get (2 * i + 1), handed σ r with
    | some (.one (.addr j 0)), some (.slot false ls), some st => if j = i then some ((2 * (i + 1), .one (.addr (i + 1) 0)) :: (2 * (i + 1) + 1, .slot false ls) :: st) else none
    | _, _, _ => none
def packW (ws : List (Bool × List Lf)) : V := match ws with
  | [(true, ls)] => .agg ls
  | [(false, [l])] => .one l
  | ws => .tup ws
def finK {β : Type} (fn : Func) (P : Program) (ptrs : List Nat) (σ : St) (K : St → Option β) : Option β :=
  match resVs P σ fn.results.toList with
  | none => none
  | some vs => match vs with
    | [(false, [.addr id 0])] => match σ.get (2 * id + 1) with
      | some (.slot false ls) => match handed (σ.del (2 * id + 1)) ptrs with
        | some hs => K ((0, .one (.addr 0 0)) :: (1, .slot false ls) :: hs)
        | none => none
      | _ => none
    | vs => match outVs σ 0 vs with
      | some (σ', ws, os) => match handed σ' ptrs with
        | some hs =>
          K (if allUndef os then (0, packW ws) :: hs else (0, packW ws) :: (1, .slot true os) :: hs)
        | none => none
      | none => none
def retK {β : Type} (fn : Func) (P : Program) (ptrs : List Nat) (K : St → Option β) : Exit → St → Option β := fun e σ => match e with
  | .normal => finK fn P ptrs σ K
  | .ret => finK fn P ptrs σ K
  | _ => none
def bodyOf (fn : Func) : Code := match fn.body with
  | some c => c
  | none => .skip
def ptrsOf : St → List Nat
  | [] => []
  | (k, _) :: r => if k % 2 = 1 then k / 2 :: ptrsOf r else ptrsOf r
/-- A function, run. -/
def runF {β : Type} (orc : FuncId → St → (St → Option β) → Option β) (lp : Nat → St → (Exit → St → Option β) → Option β) (fx : Fx) (fn : Func) (σ : St) (K : St → Option β) : Option β :=
  let ptrs := ptrsOf σ
  codeK orc lp { fx with ptrs } (bodyOf fn) σ (retK fn fx.P ptrs K)
end Go.Vi
/- The interpreter's states and logs: what can be said without memory. -/
namespace Go.Vi
set_option linter.unusedVariables false
set_option linter.unusedSimpArgs false

/-! ### States -/
theorem St.get_put_same (σ : St) (k : Nat) (v : V) : (σ.put k v).get k = some v := by
  induction σ with
  | nil => simp [St.put, St.get]
  | cons p r ih =>
    obtain ⟨j, u⟩ := p
    simp only [St.put]
    split
    · simp [St.get]
    · split
      · simp [St.get]
      · rename_i h1 h2
        simp only [St.get]
        rw [if_neg (fun e => h2 e.symm)]
        exact ih
theorem St.get_put_ne (σ : St) {j k : Nat} (v : V) (h : j ≠ k) : (σ.put k v).get j = σ.get j := by
  induction σ with
  | nil => simp [St.put, St.get, Ne.symm h]
  | cons p r ih =>
    obtain ⟨i, u⟩ := p
    simp only [St.put]
    split
    · simp [St.get, Ne.symm h]
    · split
      · rename_i h2
        subst h2
        simp [St.get, Ne.symm h]
      · simp only [St.get]
        split
        · rfl
        · exact ih
theorem St.get_del_same (σ : St) (k : Nat) : (σ.del k).get k = none := by
  induction σ with
  | nil => rfl
  | cons p r ih =>
    obtain ⟨j, u⟩ := p
    simp only [St.del]
    split
    · exact ih
    · rename_i h
      simp only [St.get, if_neg h]
      exact ih
theorem St.get_del_ne (σ : St) {j k : Nat} (h : j ≠ k) : (σ.del k).get j = σ.get j := by
  induction σ with
  | nil => rfl
  | cons p r ih =>
    obtain ⟨i, u⟩ := p
    simp only [St.del]
    split
    · rename_i e
      subst e
      simp only [St.get, if_neg (Ne.symm h)]
      exact ih
    · simp only [St.get]
      split
      · rfl
      · exact ih
theorem St.get_set (σ : St) (j k : Nat) (v : Option V) : (σ.set k v).get j = if j = k then v else σ.get j := by
  by_cases h : j = k
  · subst h
    cases v <;> simp [St.set, St.get_put_same, St.get_del_same]
  · cases v <;> simp [St.set, h, St.get_put_ne σ _ h, St.get_del_ne σ h]
theorem St.get_set_ne (σ : St) {j k : Nat} (v : Option V) (h : j ≠ k) : (σ.set k v).get j = σ.get j := by rw [St.get_set, if_neg h]

/-- The keys ascend. -/
def St.Asc (σ : St) : Prop := List.Pairwise (fun p q => p.1 < q.1) σ
theorem St.mem_put {σ : St} {k : Nat} {v : V} {p : Nat × V} (h : p ∈ σ.put k v) : p.1 = k ∨ p ∈ σ := by
  induction σ with
  | nil => simp [St.put] at h; exact .inl (by rw [h])
  | cons q r ih =>
    obtain ⟨j, u⟩ := q
    simp only [St.put] at h
    split at h
    · rcases List.mem_cons.1 h with h | h
      · exact .inl (by rw [h])
      · exact .inr h
    · split at h
      · rcases List.mem_cons.1 h with h | h
        · exact .inl (by rw [h])
        · exact .inr (List.mem_cons_of_mem _ h)
      · rcases List.mem_cons.1 h with h | h
        · exact .inr (by rw [h]; exact List.mem_cons_self)
        · exact (ih h).imp id (List.mem_cons_of_mem _)
theorem St.Asc.put {σ : St} (h : σ.Asc) (k : Nat) (v : V) : (σ.put k v).Asc := by
  induction σ with
  | nil => simp [St.put, St.Asc]
  | cons p r ih =>
    obtain ⟨j, u⟩ := p
    obtain ⟨h1, h2⟩ := List.pairwise_cons.1 h
    simp only [St.put]
    split
    · rename_i hk
      refine List.pairwise_cons.2 ⟨fun q hq => ?_, h⟩
      rcases List.mem_cons.1 hq with rfl | hq
      · exact hk
      · exact Nat.lt_trans hk (h1 q hq)
    · split
      · rename_i hk
        subst hk
        exact List.pairwise_cons.2 ⟨h1, h2⟩
      · rename_i hk hne
        refine List.pairwise_cons.2 ⟨fun q hq => ?_, ih h2⟩
        rcases St.mem_put hq with e | hq
        · show j < q.1
          rw [e]; omega
        · exact h1 q hq
theorem St.del_eq (σ : St) (k : Nat) : σ.del k = σ.filter fun p => decide (p.1 ≠ k) := by
  induction σ with
  | nil => rfl
  | cons p r ih =>
    obtain ⟨j, u⟩ := p
    simp only [St.del, List.filter_cons]
    split
    · rename_i e; simp [e, ih]
    · rename_i e; simp [e, ih]
theorem St.Asc.filter {σ : St} (h : σ.Asc) (p : Nat × V → Bool) : St.Asc (σ.filter p) := List.Pairwise.filter p h
theorem St.Asc.del {σ : St} (h : σ.Asc) (k : Nat) : (σ.del k).Asc := by rw [St.del_eq]; exact h.filter _
theorem St.Asc.set {σ : St} (h : σ.Asc) (k : Nat) (v : Option V) : (σ.set k v).Asc := by
  cases v
  · exact h.del k
  · exact h.put k _
theorem St.get_of_lt {σ : St} {k : Nat} (h : ∀ p ∈ σ, k < p.1) : σ.get k = none := by
  induction σ with
  | nil => rfl
  | cons p r ih =>
    obtain ⟨j, u⟩ := p
    have := h (j, u) List.mem_cons_self
    simp only [St.get]
    rw [if_neg (by simp at this; omega)]
    exact ih fun q hq => h q (List.mem_cons_of_mem _ hq)
theorem St.get_filter {σ : St} (h : σ.Asc) (p : Nat × V → Bool) (k : Nat) : St.get (σ.filter p) k = (σ.get k).filter fun v => p (k, v) := by
  induction σ with
  | nil => rfl
  | cons q r ih =>
    obtain ⟨j, u⟩ := q
    obtain ⟨h1, h2⟩ := List.pairwise_cons.1 h
    simp only [List.filter_cons]
    by_cases hk : j = k
    · subst hk
      have hn : St.get r j = none := St.get_of_lt fun q hq => h1 q hq
      by_cases hp : p (j, u) = true
      · simp [hp, St.get, Option.filter]
      · rw [if_neg hp, ih h2, hn]
        simp [St.get, Option.filter, hp]
    · by_cases hp : p (j, u) = true
      · rw [if_pos hp]
        simp only [St.get, if_neg hk]
        exact ih h2
      · rw [if_neg hp]
        simp only [St.get, if_neg hk]
        exact ih h2
theorem St.mem_of_get {σ : St} {k : Nat} {v : V} (h : σ.get k = some v) : (k, v) ∈ σ := by
  induction σ with
  | nil => simp [St.get] at h
  | cons q r ih =>
    obtain ⟨j, u⟩ := q
    simp only [St.get] at h
    split at h
    · rename_i e; subst e; simp at h; subst h; exact List.mem_cons_self
    · exact List.mem_cons_of_mem _ (ih h)

theorem St.get_of_mem {σ : St} (h : σ.Asc) {k : Nat} {v : V} (hm : (k, v) ∈ σ) : σ.get k = some v := by
  induction σ with
  | nil => cases hm
  | cons q r ih =>
    obtain ⟨j, u⟩ := q
    obtain ⟨h1, h2⟩ := List.pairwise_cons.1 h
    simp only [St.get]
    rcases List.mem_cons.1 hm with e | hm
    · cases e; rw [if_pos rfl]
    · have := h1 _ hm
      simp only at this
      rw [if_neg (by omega)]
      exact ih h2 hm

/-- Two states that read alike. -/
def St.Sim (σ τ : St) : Prop := ∀ k, σ.get k = τ.get k
theorem St.Sim.refl (σ : St) : σ.Sim σ := fun _ => rfl
theorem St.Sim.symm {σ τ : St} (h : σ.Sim τ) : τ.Sim σ := fun k => (h k).symm
theorem St.Sim.trans {σ τ υ : St} (h : σ.Sim τ) (g : τ.Sim υ) : σ.Sim υ := fun k => (h k).trans (g k)
theorem St.Sim.set {σ τ : St} (h : σ.Sim τ) (k : Nat) (v : Option V) : (σ.set k v).Sim (τ.set k v) := fun j => by
  rw [St.get_set, St.get_set, h j]
theorem St.Sim.filter {σ τ : St} (h : σ.Sim τ) (hσ : σ.Asc) (hτ : τ.Asc) (p : Nat × V → Bool) : St.Sim (σ.filter p) (τ.filter p) := fun j => by
  rw [St.get_filter hσ, St.get_filter hτ, h j]

/-! ### Runs -/
abbrev Orc := FuncId → St → St → Prop
inductive Run (orc : Orc) : M → St → List Ac → Prop
  | ret {σ} : Run orc .ret σ []
  | rd {k f σ l} : Run orc (f (σ.get k)) σ l → Run orc (.rd k f) σ (.rd k :: l)
  | wr {k v m σ l} : Run orc m (σ.set k v) l → Run orc (.wr k v m) σ (.wr k v (σ.olds k) :: l)
  | opt {β : Type} {x : β} {f σ l} : Run orc (f x) σ l → Run orc (.opt (some x) f) σ l
  | ite {b f σ l} : Run orc (f b) σ l → Run orc (.ite b f) σ l
  | call {f a k σ res l} : orc f a res → Run orc (k res) σ l → Run orc (.call f a k) σ l
  | kill {id off m σ l} : Run orc m (σ.kill id off) l → Run orc (.kill id off m) σ (.kill id off :: l)
  | nkill {id off m σ l} : (∀ k v, σ.get k = some v → v.hits id off = false) → Run orc m σ l → Run orc (.kill id off m) σ (.nk id :: l)
  | rdS {k f σ l} : Run orc (f (shapeV (σ.get k))) σ l → Run orc (.rdS k f) σ (.rs k :: l)
  | upd {id off e k xs m σ virt ls xs0 l} : σ.get (2 * id + 1) = some (.slot virt ls) → ls[off]? = some (.lst .own e k xs0) →
      Run orc m (σ.set (2 * id + 1) (some (.slot virt (ls.set off (.lst .own e k xs))))) l → Run orc (.upd id off e k xs m) σ (.up (2 * id + 1) (.slot virt (ls.set off (.lst .own e k xs))) :: l)
def apps : List Ac → St → St
  | [], σ => σ
  | a :: l, σ => apps l (a.app σ)
theorem apps_append (l l' : List Ac) (σ : St) : apps (l ++ l') σ = apps l' (apps l σ) := by
  induction l generalizing σ with
  | nil => rfl
  | cons a l ih => exact ih (a.app σ)
/-- What is asked of oracles in passing style. -/
def OrcOk (orcK : {β : Type} → FuncId → St → (St → Option β) → Option β) (orc : Orc) : Prop :=
  ∀ {β : Type} f a (K : St → Option β) r, orcK f a K = some r → ∃ res, orc f a res ∧ K res = some r
theorem runK_sound {orcK : {β : Type} → FuncId → St → (St → Option β) → Option β} {orc : Orc} (ho : OrcOk orcK orc) {β : Type} :
    ∀ (m : M) (σ : St) (acc : List Ac) (K : St → List Ac → Option β) (r : β), m.runK orcK σ acc K = some r →
      ∃ l, Run orc m σ l ∧ K (apps l σ) (l.reverse ++ acc) = some r := by
  intro m
  induction m with
  | ret => intro σ acc K r h; exact ⟨[], .ret, h⟩
  | fail => intro σ acc K r h; cases h
  | rd k f ih =>
    intro σ acc K r h
    obtain ⟨l, h1, h2⟩ := ih _ σ _ K r h
    exact ⟨_, .rd h1, by simpa [apps, Ac.app] using h2⟩
  | wr k v m ih =>
    intro σ acc K r h
    obtain ⟨l, h1, h2⟩ := ih _ _ K r h
    exact ⟨_, .wr h1, by simpa [apps, Ac.app] using h2⟩
  | opt o f ih =>
    intro σ acc K r h
    cases o with
    | none => cases h
    | some x =>
      obtain ⟨l, h1, h2⟩ := ih x σ acc K r h
      exact ⟨l, .opt h1, h2⟩
  | ite b f ih =>
    intro σ acc K r h
    cases b
    · obtain ⟨l, h1, h2⟩ := ih false σ acc K r h
      exact ⟨l, .ite h1, h2⟩
    · obtain ⟨l, h1, h2⟩ := ih true σ acc K r h
      exact ⟨l, .ite h1, h2⟩
  | call f a k ih =>
    intro σ acc K r h
    obtain ⟨res, h0, h'⟩ := ho f a _ r h
    obtain ⟨l, h1, h2⟩ := ih res σ acc K r h'
    exact ⟨l, .call h0 h1, h2⟩
  | kill id off m ih =>
    intro σ acc K r h
    simp only [M.runK] at h
    split at h
    · obtain ⟨l, h1, h2⟩ := ih _ _ K r h
      exact ⟨_, .kill h1, by simpa [apps, Ac.app] using h2⟩
    · rename_i hn
      obtain ⟨l, h1, h2⟩ := ih _ _ K r h
      refine ⟨_, .nkill (fun k v hp => ?_) h1, by simpa [apps, Ac.app] using h2⟩
      cases hh : v.hits id off with
      | false => rfl
      | true =>
        have : (σ.any fun p => p.2.hits id off) = true := List.any_eq_true.2 ⟨(k, v), St.mem_of_get hp, hh⟩
        rw [hn] at this
        cases this
  | rdS k f ih =>
    intro σ acc K r h
    obtain ⟨l, h1, h2⟩ := ih _ σ _ K r h
    exact ⟨_, .rdS h1, by simpa [apps, Ac.app] using h2⟩
  | upd id off e k xs m ih =>
    intro σ acc K r h
    simp only [M.runK] at h
    generalize hg : σ.get (2 * id + 1) = o at h
    cases o with
    | none => cases h
    | some v =>
      cases v with
      | slot virt ls =>
        simp only [] at h
        generalize hl : ls[off]? = q at h
        cases q with
        | none => cases h
        | some lf =>
          cases lf with
          | lst m' e' k' xs0 =>
            cases m' with
            | own =>
              simp only [] at h
              split at h
              · rename_i he
                subst he
                generalize hk : Kd.eq? k' k = z at h
                cases z with
                | none => cases h
                | some p =>
                  obtain ⟨p⟩ := p
                  subst p
                  obtain ⟨l, h1, h2⟩ := ih _ _ K r h
                  exact ⟨_, .upd hg hl h1, by simpa [apps, Ac.app, St.set] using h2⟩
              · cases h
            | _ => cases h
          | _ => cases h
      | _ => cases h

theorem Ac.app_asc (a : Ac) {σ : St} (h : σ.Asc) : (a.app σ).Asc := by
  cases a with
  | rd k => exact h
  | wr k v _ => exact h.set k v
  | kill id off => exact h.filter _
  | nk _ => exact h
  | rs k => exact h
  | up k v => exact St.Asc.set h k (some v)
theorem apps_asc (l : List Ac) : ∀ {σ : St}, σ.Asc → (apps l σ).Asc := by
  induction l with
  | nil => exact fun h => h
  | cons a l ih => exact fun h => ih (a.app_asc h)
theorem Ac.app_sim (a : Ac) {σ τ : St} (h : σ.Sim τ) (hσ : σ.Asc) (hτ : τ.Asc) : (a.app σ).Sim (a.app τ) := by
  cases a with
  | rd k => exact h
  | wr k v _ => exact h.set k v
  | kill id off => exact h.filter hσ hτ _
  | nk _ => exact h
  | rs k => exact h
  | up k v => exact St.Sim.set h k (some v)
theorem apps_sim (l : List Ac) : ∀ {σ τ : St}, σ.Sim τ → σ.Asc → τ.Asc → (apps l σ).Sim (apps l τ) := by
  induction l with
  | nil => exact fun h _ _ => h
  | cons a l ih => exact fun h h1 h2 => ih (a.app_sim h h1 h2) (a.app_asc h1) (a.app_asc h2)
theorem Run.sim {orc : Orc} {m : M} {σ : St} {l : List Ac} (h : Run orc m σ l) : ∀ {τ : St}, σ.Sim τ → σ.Asc → τ.Asc → Run orc m τ l := by
  induction h with
  | ret => exact fun _ _ _ => .ret
  | rd _ ih => exact fun hs h1 h2 => .rd (hs _ ▸ ih hs h1 h2)
  | @wr k v m σ l _ ih =>
    intro τ hs h1 h2
    have : σ.olds k = τ.olds k := by simp only [St.olds, hs k]
    rw [this]
    exact .wr (ih (hs.set _ _) (h1.set _ _) (h2.set _ _))
  | opt _ ih => exact fun hs h1 h2 => .opt (ih hs h1 h2)
  | ite _ ih => exact fun hs h1 h2 => .ite (ih hs h1 h2)
  | call ho _ ih => exact fun hs h1 h2 => .call ho (ih hs h1 h2)
  | kill _ ih => exact fun hs h1 h2 => .kill (ih (hs.filter h1 h2 _) (h1.filter _) (h2.filter _))
  | nkill hn _ ih => exact fun hs h1 h2 => .nkill (fun k v hp => hn k v ((hs k).trans hp)) (ih hs h1 h2)
  | rdS _ ih => exact fun hs h1 h2 => .rdS (hs _ ▸ ih hs h1 h2)
  | upd hg hl _ ih => exact fun hs h1 h2 => .upd ((hs _).symm.trans hg) hl (ih (hs.set _ _) (h1.set _ _) (h2.set _ _))

theorem hits_refsL {id off : Nat} : ∀ {ls : List Lf}, ls.any (Lf.hits id off) = true → id ∈ refsL ls
  | l :: r, h => by
    simp only [List.any_cons, Bool.or_eq_true] at h
    simp only [refsL, List.mem_append]
    rcases h with h | h
    · refine .inl ?_
      cases l <;> simp [Lf.hits, Lf.refs] at h ⊢ <;> exact h.1.symm
    · exact .inr (hits_refsL h)
theorem V.hits_refs {id off : Nat} {v : V} (h : v.hits id off = true) : id ∈ v.refs := by
  cases v with
  | one l =>
    have : [l].any (Lf.hits id off) = true := by simpa [V.hits] using h
    simpa [refsL, V.refs] using hits_refsL this
  | agg ls => exact hits_refsL h
  | tup vs =>
    simp only [V.hits, List.any_eq_true] at h
    obtain ⟨p, hp, l, hl, hh⟩ := h
    exact hits_refsL (List.any_eq_true.2 ⟨l, List.mem_flatMap.2 ⟨p, hp, hl⟩, hh⟩)
  | slot _ _ => cases h
/-- Without kills, a run looks at its keys alone, and at what it found not to be borne. -/
theorem Run.frame {orc : Orc} {m : M} {σ : St} {l : List Ac} (h : Run orc m σ l) : ∀ {τ : St}, (∀ k ∈ fkeysOf l, σ.get k = τ.get k) → (∀ k ∈ skeysOf l, shapeV (σ.get k) = shapeV (τ.get k)) →
    (∀ id ∈ nkeysOf l, ∀ off k v, τ.get k = some v → v.hits id off = true → σ.get k = some v) → l.any Ac.isKill = false → Run orc m τ l := by
  induction h with
  | ret => exact fun _ _ _ _ => .ret
  | @rd k f σ l _ ih =>
    intro τ hk hs hb hn
    have e := hk k (by simp [fkeysOf, Ac.fkey])
    refine .rd ?_
    rw [← e]
    exact ih (fun j hj => hk j (by simp [fkeysOf, Ac.fkey] at hj ⊢; exact .inr hj)) (fun j hj => hs j (by simp [skeysOf, Ac.skey] at hj ⊢; exact hj)) (fun id hid => hb id (by simpa [nkeysOf, Ac.nkey] using hid)) (by simpa [Ac.isKill] using hn)
  | @wr k v m σ l _ ih =>
    intro τ hk hs hb hn
    have e := hk k (by simp [fkeysOf, Ac.fkey])
    have eo : σ.olds k = τ.olds k := by simp only [St.olds, e]
    rw [eo]
    refine .wr (ih (fun j hj => ?_) (fun j hj => ?_) (fun id hid off j u hg hh => ?_) (by simpa [Ac.isKill] using hn))
    · rw [St.get_set, St.get_set]
      split
      · rfl
      · exact hk j (by simp [fkeysOf, Ac.fkey] at hj ⊢; exact .inr hj)
    · rw [St.get_set, St.get_set]
      split
      · rfl
      · exact hs j (by simp [skeysOf, Ac.skey] at hj ⊢; exact hj)
    · rw [St.get_set] at hg ⊢
      split
      · rename_i e; rw [if_pos e] at hg; exact hg
      · rename_i e; rw [if_neg e] at hg; exact hb id (by simpa [nkeysOf, Ac.nkey] using hid) off j u hg hh
  | opt _ ih => exact fun hk hs hb hn => .opt (ih hk hs hb hn)
  | ite _ ih => exact fun hk hs hb hn => .ite (ih hk hs hb hn)
  | call ho _ ih => exact fun hk hs hb hn => .call ho (ih hk hs hb hn)
  | kill _ ih => intro τ hk hs hb hn; simp [Ac.isKill] at hn
  | @nkill id off m σ l h0 _ ih =>
    intro τ hk hs hb hn
    refine .nkill (fun k v hg => ?_) (ih (fun j hj => hk j (by simpa [fkeysOf, Ac.fkey] using hj)) (fun j hj => hs j (by simpa [skeysOf, Ac.skey] using hj)) (fun id' hid => hb id' (by simp [nkeysOf] at hid ⊢; exact .inr hid)) (by simpa [Ac.isKill] using hn))
    cases hh : v.hits id off with
    | false => rfl
    | true =>
      have := h0 k v (hb id (by simp [nkeysOf, Ac.nkey]) off k v hg hh)
      rw [hh] at this
      cases this
  | @rdS k f σ l _ ih =>
    intro τ hk hs hb hn
    have e := hs k (by simp [skeysOf, Ac.skey])
    refine .rdS ?_
    rw [← e]
    exact ih (fun j hj => hk j (by simp [fkeysOf, Ac.fkey] at hj ⊢; exact hj)) (fun j hj => hs j (by simp [skeysOf, Ac.skey] at hj ⊢; exact .inr hj)) (fun id hid => hb id (by simpa [nkeysOf, Ac.nkey] using hid)) (by simpa [Ac.isKill] using hn)
  | @upd id off e k xs m σ virt ls xs0 l hg hl _ ih =>
    intro τ hk hs hb hn
    have e := hk (2 * id + 1) (by simp [fkeysOf, Ac.fkey])
    refine .upd (e ▸ hg) hl (ih (fun j hj => ?_) (fun j hj => ?_) (fun id' hid off' j u hg' hh => ?_) (by simpa [Ac.isKill] using hn))
    · rw [St.get_set, St.get_set]
      split
      · rfl
      · exact hk j (by simp [fkeysOf, Ac.fkey] at hj ⊢; exact .inr hj)
    · rw [St.get_set, St.get_set]
      split
      · rfl
      · exact hs j (by simp [skeysOf, Ac.skey] at hj ⊢; exact hj)
    · rw [St.get_set] at hg' ⊢
      split
      · rename_i e; rw [if_pos e] at hg'; exact hg'
      · rename_i e; rw [if_neg e] at hg'; exact hb id' (by simpa [nkeysOf, Ac.nkey] using hid) off' j u hg' hh
theorem get_apps_ne (l : List Ac) : ∀ (σ : St) (k : Nat), l.any Ac.isKill = false → k ∉ wkeysOf l → k ∉ ukeysOf l → (apps l σ).get k = σ.get k := by
  induction l with
  | nil => intros; rfl
  | cons a l ih =>
    intro σ k hn hk hu
    simp only [List.any_cons, Bool.or_eq_false_iff] at hn
    have hk' : k ∉ Ac.wkey a ∧ k ∉ wkeysOf l := by simpa [wkeysOf] using hk
    have hu' : k ∉ Ac.ukey a ∧ k ∉ ukeysOf l := by simpa [ukeysOf] using hu
    simp only [apps]
    rw [ih _ _ hn.2 hk'.2 hu'.2]
    cases a with
    | rd _ => rfl
    | wr j v _ => simp [Ac.wkey] at hk'; exact St.get_set_ne σ v hk'.1
    | kill _ _ => simp [Ac.isKill] at hn
    | nk _ => rfl
    | rs _ => rfl
    | up j v => simp [Ac.ukey] at hu'; exact St.get_set_ne σ (some v) hu'.1
theorem map_isOwn_set {ls : List Lf} {off : Nat} {e : TypeId} {k : Kd} {xs0 xs : List k.T} (hl : ls[off]? = some (.lst .own e k xs0)) :
    (ls.set off (.lst .own e k xs)).map Lf.isOwn = ls.map Lf.isOwn := by
  apply List.ext_getElem?
  intro i
  simp only [List.getElem?_map, List.getElem?_set]
  have hlt : off < ls.length := (List.getElem?_eq_some_iff.1 hl).1
  by_cases h : off = i
  · subst h
    have h2 : ls[off] = .lst .own e k xs0 := by rw [List.getElem?_eq_getElem hlt] at hl; exact Option.some.inj hl
    simp [hlt, h2, Lf.isOwn]
  · simp [h]
/-- The shape of what is not written anew stays. -/
theorem Run.shape {orc : Orc} {m : M} {σ : St} {l : List Ac} (h : Run orc m σ l) : ∀ (k : Nat), l.any Ac.isKill = false → k ∉ wkeysOf l → shapeV ((apps l σ).get k) = shapeV (σ.get k) := by
  induction h with
  | ret => intros; rfl
  | rd _ ih => intro k hn hk; exact ih k (by simpa [Ac.isKill] using hn) (by simpa [wkeysOf, Ac.wkey] using hk)
  | wr _ ih =>
    intro k hn hk
    simp [wkeysOf, Ac.wkey] at hk
    simp only [apps, Ac.app]
    rw [ih k (by simpa [Ac.isKill] using hn) (by simp [wkeysOf]; exact hk.2), St.get_set_ne _ _ hk.1]
  | opt _ ih => exact fun k hn hk => ih k hn hk
  | ite _ ih => exact fun k hn hk => ih k hn hk
  | call _ _ ih => exact fun k hn hk => ih k hn hk
  | kill _ ih => intro k hn hk; simp [Ac.isKill] at hn
  | nkill _ _ ih => intro k hn hk; exact ih k (by simpa [Ac.isKill] using hn) (by simpa [wkeysOf, Ac.wkey] using hk)
  | rdS _ ih => intro k hn hk; exact ih k (by simpa [Ac.isKill] using hn) (by simpa [wkeysOf, Ac.wkey] using hk)
  | upd hg hl _ ih =>
    intro k hn hk
    simp only [apps, Ac.app]
    rw [ih k (by simpa [Ac.isKill] using hn) (by simpa [wkeysOf, Ac.wkey] using hk), St.get_set]
    split
    · rename_i e
      subst e
      rw [hg]
      simp only [shapeV, map_isOwn_set hl]
    · rfl
/-- What a log leaves at a key that it writes does not depend on the state. -/
theorem get_apps_in (l : List Ac) : ∀ (σ τ : St) (k : Nat), l.any Ac.isKill = false → (k ∈ wkeysOf l ∨ k ∈ ukeysOf l) → (apps l σ).get k = (apps l τ).get k := by
  induction l with
  | nil => intro σ τ k _ h; simp [wkeysOf, ukeysOf] at h
  | cons a l ih =>
    intro σ τ k hn hk
    simp only [List.any_cons, Bool.or_eq_false_iff] at hn
    simp only [apps]
    by_cases hl : k ∈ wkeysOf l ∨ k ∈ ukeysOf l
    · exact ih _ _ k hn.2 hl
    · have hw : k ∉ wkeysOf l := fun h => hl (.inl h)
      have hu : k ∉ ukeysOf l := fun h => hl (.inr h)
      have ha : k ∈ Ac.wkey a ∨ k ∈ Ac.ukey a := by
        rcases hk with hk | hk
        · have : k ∈ Ac.wkey a ∨ k ∈ wkeysOf l := by simpa [wkeysOf] using hk
          exact .inl (this.resolve_right hw)
        · have : k ∈ Ac.ukey a ∨ k ∈ ukeysOf l := by simpa [ukeysOf] using hk
          exact .inr (this.resolve_right hu)
      rw [get_apps_ne l _ k hn.2 hw hu, get_apps_ne l _ k hn.2 hw hu]
      cases a with
      | rd _ => simp [Ac.wkey, Ac.ukey] at ha
      | wr j v _ =>
        simp [Ac.wkey, Ac.ukey] at ha
        subst ha
        show (σ.set k v).get k = (τ.set k v).get k
        rw [St.get_set, St.get_set]; simp
      | kill _ _ => simp [Ac.wkey, Ac.ukey] at ha
      | nk _ => simp [Ac.wkey, Ac.ukey] at ha
      | rs _ => simp [Ac.wkey, Ac.ukey] at ha
      | up j v =>
        simp [Ac.wkey, Ac.ukey] at ha
        subst ha
        show (σ.set k (some v)).get k = (τ.set k (some v)).get k
        rw [St.get_set, St.get_set]; simp
theorem anyIn_false {xs ys : List Nat} (h : anyIn xs ys = false) : ∀ x ∈ xs, x ∉ ys := by
  intro x hx hy
  have : anyIn xs ys = true := by
    simp only [anyIn, List.any_eq_true]
    exact ⟨x, hx, by simpa using hy⟩
  rw [h] at this
  cases this
theorem wkey_key (l : List Ac) {k : Nat} (h : k ∈ wkeysOf l) : k ∈ fkeysOf l := by
  simp only [wkeysOf, fkeysOf, List.mem_flatMap] at h ⊢
  obtain ⟨a, ha, hk⟩ := h
  exact ⟨a, ha, by cases a <;> simp_all [Ac.wkey, Ac.fkey]⟩
theorem ukey_key (l : List Ac) {k : Nat} (h : k ∈ ukeysOf l) : k ∈ fkeysOf l := by
  simp only [ukeysOf, fkeysOf, List.mem_flatMap] at h ⊢
  obtain ⟨a, ha, hk⟩ := h
  exact ⟨a, ha, by cases a <;> simp_all [Ac.ukey, Ac.fkey]⟩
/-- What bears an object stays, where nothing that bears it is written over. -/
theorem Run.bore {orc : Orc} {m : M} {σ : St} {l : List Ac} (h : Run orc m σ l) : ∀ {id off j : Nat} {v : V}, l.any Ac.isKill = false → id ∉ oldsOf l → σ.get j = some v → v.hits id off = true → (apps l σ).get j = some v := by
  induction h with
  | ret => exact fun _ _ hg _ => hg
  | rd _ ih => exact fun hn ho hg hh => ih (by simpa [Ac.isKill] using hn) (by simpa [oldsOf, Ac.olds] using ho) hg hh
  | @wr k v m σ l _ ih =>
    intro id off j u hn ho hg hh
    have ho' : id ∉ σ.olds k ∧ id ∉ oldsOf l := by simpa [oldsOf, Ac.olds] using ho
    refine ih (by simpa [Ac.isKill] using hn) ho'.2 ?_ hh
    rw [St.get_set]
    split
    · rename_i e
      subst e
      exact absurd (by simp only [St.olds, hg]; exact V.hits_refs hh) ho'.1
    · exact hg
  | opt _ ih => exact fun hn ho hg hh => ih hn ho hg hh
  | ite _ ih => exact fun hn ho hg hh => ih hn ho hg hh
  | call _ _ ih => exact fun hn ho hg hh => ih hn ho hg hh
  | kill _ ih => intro id off j u hn; simp [Ac.isKill] at hn
  | nkill _ _ ih => exact fun hn ho hg hh => ih (by simpa [Ac.isKill] using hn) (by simpa [oldsOf, Ac.olds] using ho) hg hh
  | rdS _ ih => exact fun hn ho hg hh => ih (by simpa [Ac.isKill] using hn) (by simpa [oldsOf, Ac.olds] using ho) hg hh
  | @upd id' off' e k xs m σ virt ls xs0 l hg0 hl _ ih =>
    intro id off j u hn ho hg hh
    refine ih (by simpa [Ac.isKill] using hn) (by simpa [oldsOf, Ac.olds] using ho) ?_ hh
    rw [St.get_set]
    split
    · rename_i e
      subst e
      rw [hg0] at hg
      cases hg
      cases hh
    · exact hg
theorem apps_bore (l : List Ac) : ∀ {σ : St} {id off j : Nat} {v : V}, l.any Ac.isKill = false → id ∉ arefs l → (apps l σ).get j = some v → v.hits id off = true → σ.get j = some v := by
  induction l with
  | nil => exact fun _ _ hg _ => hg
  | cons a l ih =>
    intro σ id off j v hn hr hg hh
    simp only [List.any_cons, Bool.or_eq_false_iff] at hn
    have hr' : id ∉ Ac.refs a ∧ id ∉ arefs l := by simpa [arefs] using hr
    have h1 := ih hn.2 hr'.2 hg hh
    cases a with
    | rd _ => exact h1
    | rs _ => exact h1
    | nk _ => exact h1
    | kill _ _ => simp [Ac.isKill] at hn
    | wr k u _ =>
      have h1 : (σ.set k u).get j = some v := h1
      rw [St.get_set] at h1
      split at h1
      · subst h1
        exact absurd (V.hits_refs hh) hr'.1
      · exact h1
    | up k u =>
      have h1 : (σ.set k (some u)).get j = some v := h1
      rw [St.get_set] at h1
      split at h1
      · cases h1
        exact absurd (V.hits_refs hh) hr'.1
      · exact h1
/-- Two operations whose logs do not touch stand in either order. -/
theorem Run.swap {orc : Orc} {m n : M} {σ : St} {l k : List Ac} (hc : comm (footOf l) (footOf k) = true) (h1 : Run orc m σ l) (h2 : Run orc n (apps l σ) k) :
    Run orc n σ k ∧ Run orc m (apps k σ) l ∧ (apps k (apps l σ)).Sim (apps l (apps k σ)) := by
  simp only [comm, footOf, Bool.and_eq_true, Bool.not_eq_true'] at hc
  obtain ⟨⟨⟨⟨⟨⟨⟨⟨⟨⟨⟨a1, a2⟩, b1⟩, b2⟩, b3⟩, c1⟩, c2⟩, c3⟩, d1⟩, d2⟩, d3⟩, d4⟩ := hc
  have b1 := anyIn_false b1
  have b2 := anyIn_false b2
  have b3 := anyIn_false b3
  have c1 := anyIn_false c1
  have c2 := anyIn_false c2
  have c3 := anyIn_false c3
  have d1 := anyIn_false d1
  have d4 := anyIn_false d4
  have hn : Run orc n σ k := h2.frame (fun j hj => get_apps_ne l σ j a1 (fun hw => b1 j hw hj) (fun hu => b3 j hu hj)) (fun j hj => h1.shape j a1 fun hw => b2 j hw hj)
    (fun id hid off j v hg hh => h1.bore a1 (d4 id hid) hg hh) a2
  refine ⟨hn, h1.frame (fun j hj => (get_apps_ne k σ j a2 (fun hw => c1 j hw hj) (fun hu => c3 j hu hj)).symm) (fun j hj => (hn.shape j a2 fun hw => c2 j hw hj).symm)
    (fun id hid off j v hg hh => apps_bore k a2 (d1 id hid) hg hh) a1, fun j => ?_⟩
  by_cases hk : j ∈ wkeysOf k ∨ j ∈ ukeysOf k
  · have hf : j ∈ fkeysOf k := hk.elim (wkey_key k) (ukey_key k)
    rw [get_apps_ne l _ j a1 (fun hw => b1 j hw hf) (fun hu => b3 j hu hf)]
    exact get_apps_in k _ _ j a2 hk
  · rw [get_apps_ne k _ j a2 (fun h => hk (.inl h)) (fun h => hk (.inr h))]
    by_cases hl : j ∈ wkeysOf l ∨ j ∈ ukeysOf l
    · exact get_apps_in l _ _ j a1 hl
    · rw [get_apps_ne l _ j a1 (fun h => hl (.inl h)) (fun h => hl (.inr h)), get_apps_ne l _ j a1 (fun h => hl (.inl h)) (fun h => hl (.inr h)), get_apps_ne k _ j a2 (fun h => hk (.inl h)) (fun h => hk (.inr h))]

/-! ### The numbers of objects that a state bears -/
def St.bears (σ : St) (id : Nat) : Prop := ∃ k v, σ.get k = some v ∧ id ∈ v.refs
theorem bears_apps (l : List Ac) : ∀ {σ : St} {id : Nat}, σ.Asc → (apps l σ).bears id → σ.bears id ∨ id ∈ arefs l := by
  induction l with
  | nil => exact fun _ h => .inl h
  | cons a l ih =>
    intro σ id ha h
    rcases ih (a.app_asc ha) h with h | h
    · obtain ⟨k, v, hk, hv⟩ := h
      cases a with
      | rd _ => exact .inl ⟨k, v, hk, hv⟩
      | wr j u _ =>
        have hk' : (σ.set j u).get k = some v := hk
        rw [St.get_set] at hk'
        split at hk'
        · subst hk'
          exact .inr (by simp [arefs, Ac.refs, hv])
        · exact .inl ⟨k, v, hk', hv⟩
      | rs _ => exact .inl ⟨k, v, hk, hv⟩
      | nk _ => exact .inl ⟨k, v, hk, hv⟩
      | up j u =>
        have hk' : (σ.set j (some u)).get k = some v := hk
        rw [St.get_set] at hk'
        split at hk'
        · cases hk'
          exact .inr (by simp [arefs, Ac.refs, hv])
        · exact .inl ⟨k, v, hk', hv⟩
      | kill i o =>
        have hk' : (σ.kill i o).get k = some v := hk
        rw [St.kill, St.get_filter ha] at hk'
        exact .inl ⟨k, v, (Option.filter_eq_some_iff.1 hk').1, hv⟩
    · exact .inr (by simp [arefs] at h ⊢; exact .inr h)
end Go.Vi
/- How abstract values lie in memory. -/
namespace Go.Vi
set_option linter.unusedVariables false
set_option linter.unusedSimpArgs false
variable {α β : Type}

/-! ### Lists side by side -/
def All2 (p : α → β → Prop) : List α → List β → Prop
  | [], [] => True
  | x :: xs, y :: ys => p x y ∧ All2 p xs ys
  | _, _ => False
theorem All2.length {p : α → β → Prop} : ∀ {xs : List α} {ys : List β}, All2 p xs ys → xs.length = ys.length
  | [], [], _ => rfl
  | x :: xs, y :: ys, h => by simp [All2.length h.2]
  | [], _ :: _, h => h.elim
  | _ :: _, [], h => h.elim
theorem All2.imp {p q : α → β → Prop} (hpq : ∀ x y, p x y → q x y) : ∀ {xs : List α} {ys : List β}, All2 p xs ys → All2 q xs ys
  | [], [], _ => trivial
  | x :: xs, y :: ys, h => ⟨hpq _ _ h.1, All2.imp hpq h.2⟩
  | [], _ :: _, h => h.elim
  | _ :: _, [], h => h.elim
theorem All2.get {p : α → β → Prop} : ∀ {xs : List α} {ys : List β}, All2 p xs ys → ∀ {i : Nat} {x : α}, xs[i]? = some x → ∃ y, ys[i]? = some y ∧ p x y
  | [], [], _, i, x, h => by simp at h
  | x :: xs, y :: ys, h, 0, z, hz => by simp at hz; subst hz; exact ⟨y, rfl, h.1⟩
  | x :: xs, y :: ys, h, i + 1, z, hz => by simp at hz; obtain ⟨u, hu, hp⟩ := All2.get h.2 hz; exact ⟨u, by simpa using hu, hp⟩
  | [], _ :: _, h, _, _, _ => h.elim
  | _ :: _, [], h, _, _, _ => h.elim
theorem All2.of_get {p : α → β → Prop} : ∀ {xs : List α} {ys : List β}, xs.length = ys.length → (∀ (i : Nat) (x : α), xs[i]? = some x → ∃ y, ys[i]? = some y ∧ p x y) → All2 p xs ys
  | [], [], _, _ => trivial
  | x :: xs, y :: ys, hl, h => by
    obtain ⟨u, hu, hp⟩ := h 0 x rfl
    simp at hu
    subst hu
    exact ⟨hp, All2.of_get (by simpa using hl) fun i z hz => by simpa using h (i + 1) z (by simpa using hz)⟩
  | [], _ :: _, hl, _ => by simp at hl
  | _ :: _, [], hl, _ => by simp at hl
theorem All2.append {p : α → β → Prop} : ∀ {xs xs' : List α} {ys ys' : List β}, All2 p xs ys → All2 p xs' ys' → All2 p (xs ++ xs') (ys ++ ys')
  | [], _, [], _, _, h => h
  | x :: xs, _, y :: ys, _, h, h' => ⟨h.1, All2.append h.2 h'⟩
  | [], _, _ :: _, _, h, _ => h.elim
  | _ :: _, _, [], _, h, _ => h.elim
theorem All2.drop {p : α → β → Prop} {xs : List α} {ys : List β} (h : All2 p xs ys) (n : Nat) : All2 p (xs.drop n) (ys.drop n) := by
  refine All2.of_get (by simp [h.length]) fun i x hx => ?_
  rw [List.getElem?_drop] at hx ⊢
  exact h.get hx
theorem All2.take {p : α → β → Prop} {xs : List α} {ys : List β} (h : All2 p xs ys) (n : Nat) : All2 p (xs.take n) (ys.take n) := by
  refine All2.of_get (by simp [h.length]) fun i x hx => ?_
  rw [List.getElem?_take] at hx ⊢
  split at hx
  · rename_i hi; rw [if_pos hi]; exact h.get hx
  · cases hx

theorem Kd.w_pos : ∀ k : Kd, 0 < k.w
  | .pair a b => Nat.add_pos_left (Kd.w_pos a) _
  | .int _ | .bool | .val | .fz _ _ | .ow _ _ => Nat.one_pos

/-! ### Elements and lists -/
def RepG (wd : Nat) (ρ : α → List Value → List Nat → Prop) (xs : List α) (cs : List Value) (fss : List (List Nat)) : Prop :=
  cs.length = xs.length * wd ∧ fss.length = xs.length ∧ ∀ (i : Nat) (x : α), xs[i]? = some x → ∃ f, fss[i]? = some f ∧ ρ x ((cs.drop (i * wd)).take wd) f
def FrzG (w : World) (Im : Nat → Prop) (wd : Nat) (ρ : α → List Value → List Nat → Prop) (xs : List α) (v : Value) : Prop :=
  (xs = [] ∧ ∃ a cap, v = .slice a 0 cap) ∨
  ∃ b o cap arr e fr fss, v = .slice (some ⟨b, o, none⟩) xs.length cap ∧ xs.length ≤ cap ∧ w.heap[b]? = some (.cells arr e fr) ∧ Im b ∧
    RepG wd ρ xs ((arr.toList.drop o).take (xs.length * wd)) fss ∧ ∀ f ∈ fss, ∀ x ∈ f, Im x
def OwnG (w : World) (e : TypeId) (wd : Nat) (ρ : α → List Value → List Nat → Prop) (xs : List α) (v : Value) (f : List Nat) : Prop :=
  ∃ cs fss, w.ownsRow 0 e wd v xs.length cs ∧ RepG wd ρ xs cs fss ∧ f = v.ownBlock.toList ++ fss.flatten ∧ f.Nodup
def RepK (w : World) (Im : Nat → Prop) : (k : Kd) → k.T → List Value → List Nat → Prop
  | .int kk, n, vs, f => vs = [.int kk n] ∧ f = []
  | .bool, b, vs, f => vs = [.bool b] ∧ f = []
  | .val, v, vs, f => vs = [v] ∧ v.oneCell' = true ∧ f = []
  | .pair a b, x, vs, f => ∃ f1 f2, RepK w Im a x.1 (vs.take a.w) f1 ∧ RepK w Im b x.2 (vs.drop a.w) f2 ∧ f = f1 ++ f2
  | .fz e k, xs, vs, f => ∃ v, vs = [v] ∧ f = [] ∧ FrzG w Im k.w (RepK w Im k) xs v
  | .ow e k, o, vs, f => ∃ v, vs = [v] ∧ v.oneCell' = true ∧ match o with
    | none => f = []
    | some xs => OwnG w e k.w (RepK w Im k) xs v f
abbrev Frz (w : World) (Im : Nat → Prop) (k : Kd) (xs : List k.T) (v : Value) : Prop := FrzG w Im k.w (RepK w Im k) xs v
abbrev Own (w : World) (Im : Nat → Prop) (e : TypeId) (k : Kd) (xs : List k.T) (v : Value) (f : List Nat) : Prop := OwnG w e k.w (RepK w Im k) xs v f

theorem FrzG.slice {w : World} {Im : Nat → Prop} {wd : Nat} {ρ : α → List Value → List Nat → Prop} {xs : List α} {v : Value} (h : FrzG w Im wd ρ xs v) : ∃ a cap, v = .slice a xs.length cap := by
  rcases h with ⟨rfl, a, cap, rfl⟩ | ⟨b, o, cap, _, _, _, _, rfl, _⟩
  · exact ⟨a, cap, rfl⟩
  · exact ⟨_, cap, rfl⟩
theorem OwnG.slice {w : World} {e : TypeId} {wd : Nat} {ρ : α → List Value → List Nat → Prop} {xs : List α} {v : Value} {f : List Nat} (h : OwnG w e wd ρ xs v f) : ∃ a cap, v = .slice a xs.length cap := by
  obtain ⟨cs, fss, ⟨_, h⟩, _⟩ := h
  rcases h with ⟨rfl, h⟩ | ⟨g, cap, cur, rfl, _⟩
  · exact ⟨none, 0, by rw [h]⟩
  · exact ⟨_, cap, rfl⟩
theorem RepK.length {w : World} {Im : Nat → Prop} : ∀ {k : Kd} {x : k.T} {vs : List Value} {f : List Nat}, RepK w Im k x vs f → vs.length = k.w
  | .int _, _, _, _, h => by simp only [RepK] at h; rw [h.1]; rfl
  | .bool, _, _, _, h => by simp only [RepK] at h; rw [h.1]; rfl
  | .val, _, _, _, h => by simp only [RepK] at h; rw [h.1]; rfl
  | .fz _ _, _, _, _, h => by simp only [RepK] at h; obtain ⟨v, h, _⟩ := h; rw [h]; rfl
  | .ow _ _, _, _, _, h => by simp only [RepK] at h; obtain ⟨v, h, _⟩ := h; rw [h]; rfl
  | .pair a b, _, vs, _, h => by
    simp only [RepK] at h
    obtain ⟨f1, f2, h1, h2, _⟩ := h
    have a1 := RepK.length h1
    have a2 := RepK.length h2
    simp only [List.length_take, List.length_drop] at a1 a2
    simp only [Kd.w]
    omega
theorem RepK.one {w : World} {Im : Nat → Prop} : ∀ {k : Kd} {x : k.T} {vs : List Value} {f : List Nat}, RepK w Im k x vs f → ∀ v ∈ vs, v.oneCell' = true
  | .int _, _, _, _, h => by simp only [RepK] at h; rw [h.1]; simp [Value.oneCell']
  | .bool, _, _, _, h => by simp only [RepK] at h; rw [h.1]; simp [Value.oneCell']
  | .val, _, _, _, h => by simp only [RepK] at h; rw [h.1]; simpa using h.2.1
  | .fz _ _, _, _, _, h => by
    simp only [RepK] at h
    obtain ⟨v, h, _, h'⟩ := h
    obtain ⟨a, cap, rfl⟩ := h'.slice
    rw [h]; simp [Value.oneCell']
  | .ow _ _, _, _, _, h => by simp only [RepK] at h; obtain ⟨v, h, h', _⟩ := h; rw [h]; simpa using h'
  | .pair a b, _, vs, _, h => by
    simp only [RepK] at h
    obtain ⟨f1, f2, h1, h2, _⟩ := h
    intro v hv
    rw [← List.take_append_drop a.w vs] at hv
    rcases List.mem_append.1 hv with hv | hv
    · exact RepK.one h1 v hv
    · exact RepK.one h2 v hv

/-! ### What does not change -/
theorem World.ownsRow.frame {w w' : World} {base : Nat} {e : TypeId} {size : Nat} {v : Value} {n : Nat} {xs : List Value} (h : w.ownsRow base e size v n xs)
    (hb : ∀ g, v.ownBlock = some g → w'.heap[g]? = w.heap[g]?) : w'.ownsRow base e size v n xs := by
  refine ⟨h.1, ?_⟩
  rcases h.2 with hn | ⟨g, cap, cur, rfl, hbg, hg, rest⟩
  · exact .inl hn
  · exact .inr ⟨g, cap, cur, rfl, hbg, by rw [hb g rfl]; exact hg, rest⟩
theorem RepG.imp {wd : Nat} {ρ ρ' : α → List Value → List Nat → Prop} {xs : List α} {cs : List Value} {fss : List (List Nat)} (h : RepG wd ρ xs cs fss)
    (hi : ∀ x vs f, f ∈ fss → ρ x vs f → ρ' x vs f) : RepG wd ρ' xs cs fss := by
  refine ⟨h.1, h.2.1, fun i x hx => ?_⟩
  obtain ⟨f, hf, hr⟩ := h.2.2 i x hx
  exact ⟨f, hf, hi x _ f (List.mem_of_getElem? hf) hr⟩
theorem FrzG.imp {w w' : World} {Im Im' : Nat → Prop} {wd : Nat} {ρ ρ' : α → List Value → List Nat → Prop} {xs : List α} {v : Value} (h : FrzG w Im wd ρ xs v)
    (hb : ∀ b, Im b → w'.heap[b]? = w.heap[b]?) (hm : ∀ b, Im b → Im' b) (hi : ∀ x vs f, (∀ b ∈ f, Im b) → ρ x vs f → ρ' x vs f) : FrzG w' Im' wd ρ' xs v := by
  rcases h with h | ⟨b, o, cap, arr, e, fr, fss, hv, hc, hh, hib, hr, hf⟩
  · exact .inl h
  · exact .inr ⟨b, o, cap, arr, e, fr, fss, hv, hc, by rw [hb b hib]; exact hh, hm b hib, hr.imp fun x vs f hm' => hi x vs f (hf f hm'), fun f hf' x hx => hm x (hf f hf' x hx)⟩
theorem OwnG.imp {w w' : World} {e : TypeId} {wd : Nat} {ρ ρ' : α → List Value → List Nat → Prop} {xs : List α} {v : Value} {f : List Nat} (h : OwnG w e wd ρ xs v f)
    (hb : ∀ b ∈ f, w'.heap[b]? = w.heap[b]?) (hi : ∀ x vs g, (∀ b ∈ g, b ∈ f) → ρ x vs g → ρ' x vs g) : OwnG w' e wd ρ' xs v f := by
  obtain ⟨cs, fss, ho, hr, hf, hn⟩ := h
  refine ⟨cs, fss, World.ownsRow.frame ho fun g hg => hb g ?_, hr.imp fun x vs g hg => hi x vs g fun b hbg => ?_, hf, hn⟩
  · rw [hf, hg]; simp
  · rw [hf]; exact List.mem_append_right _ (List.mem_flatten.2 ⟨g, hg, hbg⟩)
theorem RepK.imp {w w' : World} {Im Im' : Nat → Prop} (hI : ∀ b, Im b → w'.heap[b]? = w.heap[b]?) (hm : ∀ b, Im b → Im' b) :
    ∀ {k : Kd} {x : k.T} {vs : List Value} {f : List Nat}, (∀ b ∈ f, w'.heap[b]? = w.heap[b]?) → RepK w Im k x vs f → RepK w' Im' k x vs f
  | .int _, _, _, _, _, h => h
  | .bool, _, _, _, _, h => h
  | .val, _, _, _, _, h => h
  | .pair a b, x, vs, f, hf, h => by
    simp only [RepK] at h ⊢
    obtain ⟨f1, f2, h1, h2, rfl⟩ := h
    exact ⟨f1, f2, RepK.imp hI hm (fun b hb => hf b (List.mem_append_left _ hb)) h1, RepK.imp hI hm (fun b hb => hf b (List.mem_append_right _ hb)) h2, rfl⟩
  | .fz e k, xs, vs, f, _, h => by
    simp only [RepK] at h ⊢
    obtain ⟨v, h1, h2, h3⟩ := h
    exact ⟨v, h1, h2, h3.imp hI hm fun x vs f hf hr => RepK.imp hI hm (fun b hb => hI b (hf b hb)) hr⟩
  | .ow e k, o, vs, f, hf, h => by
    simp only [RepK] at h ⊢
    obtain ⟨v, h1, h2, h3⟩ := h
    refine ⟨v, h1, h2, ?_⟩
    cases o with
    | none => exact h3
    | some xs => exact h3.imp hf fun x vs g hg hr => RepK.imp hI hm (fun b hb => hf b (hg b hb)) hr
theorem Frz.imp {w w' : World} {Im Im' : Nat → Prop} (hI : ∀ b, Im b → w'.heap[b]? = w.heap[b]?) (hm : ∀ b, Im b → Im' b) {k : Kd} {xs : List k.T} {v : Value} (h : Frz w Im k xs v) : Frz w' Im' k xs v :=
  FrzG.imp h hI hm fun _ _ _ hf hr => RepK.imp hI hm (fun b hb => hI b (hf b hb)) hr
theorem Own.imp {w w' : World} {Im Im' : Nat → Prop} (hI : ∀ b, Im b → w'.heap[b]? = w.heap[b]?) (hm : ∀ b, Im b → Im' b) {e : TypeId} {k : Kd} {xs : List k.T} {v : Value} {f : List Nat}
    (hf : ∀ b ∈ f, w'.heap[b]? = w.heap[b]?) (h : Own w Im e k xs v f) : Own w' Im' e k xs v f :=
  OwnG.imp h hf fun _ _ _ hg hr => RepK.imp hI hm (fun b hb => hf b (hg b hb)) hr
/-- A kind without frozen lists does not look at what is frozen. -/
theorem RepK.noFz {w : World} {Im Im' : Nat → Prop} : ∀ {k : Kd} {x : k.T} {vs : List Value} {f : List Nat}, k.noFz = true → RepK w Im k x vs f → RepK w Im' k x vs f
  | .int _, _, _, _, _, h => h
  | .bool, _, _, _, _, h => h
  | .val, _, _, _, _, h => h
  | .pair a b, x, vs, f, hk, h => by
    simp only [Kd.noFz, Bool.and_eq_true] at hk
    simp only [RepK] at h ⊢
    obtain ⟨f1, f2, h1, h2, rfl⟩ := h
    exact ⟨f1, f2, RepK.noFz hk.1 h1, RepK.noFz hk.2 h2, rfl⟩
  | .fz e k, xs, vs, f, hk, _ => by simp [Kd.noFz] at hk
  | .ow e k, o, vs, f, hk, h => by
    simp only [RepK] at h ⊢
    obtain ⟨v, h1, h2, h3⟩ := h
    refine ⟨v, h1, h2, ?_⟩
    cases o with
    | none => exact h3
    | some xs => exact OwnG.imp h3 (fun _ _ => rfl) fun x vs g _ hr => RepK.noFz hk hr
theorem Own.noFz {w : World} {Im Im' : Nat → Prop} {e : TypeId} {k : Kd} {xs : List k.T} {v : Value} {f : List Nat} (hk : k.noFz = true) (h : Own w Im e k xs v f) : Own w Im' e k xs v f :=
  OwnG.imp h (fun _ _ => rfl) fun _ _ _ _ hr => RepK.noFz hk hr
/-- What is owned may be frozen. -/
theorem OwnG.frz {w : World} {Im : Nat → Prop} {e : TypeId} {wd : Nat} {ρ ρ' : α → List Value → List Nat → Prop} {xs : List α} {v : Value} {f : List Nat} (h : OwnG w e wd ρ xs v f)
    (hf : ∀ b ∈ f, Im b) (hi : ∀ x vs g, ρ x vs g → ρ' x vs g) : FrzG w Im wd ρ' xs v := by
  obtain ⟨cs, fss, ho, hr, rfl, hn⟩ := h
  rcases ho.2 with ⟨rfl, h0⟩ | ⟨g, cap, cur, rfl, _, hg, hc, hm, hs, ht⟩
  · exact .inl ⟨List.eq_nil_of_length_eq_zero h0, _, _, rfl⟩
  · refine .inr ⟨g, 0, cap, cur, e, (0, 0), fss, rfl, hc, hg, hf g (by simp [Value.ownBlock]), ?_, fun f hf' x hx => hf x (List.mem_append_right _ (List.mem_flatten.2 ⟨f, hf', hx⟩))⟩
    simp only [List.drop_zero]
    rw [ht]
    exact hr.imp fun x vs g _ => hi x vs g
theorem Own.frz {w : World} {Im Im' : Nat → Prop} {e : TypeId} {k : Kd} {xs : List k.T} {v : Value} {f : List Nat} (h : Own w Im e k xs v f) (hm : ∀ b, Im b → Im' b) (hf : ∀ b ∈ f, Im' b) : Frz w Im' k xs v :=
  OwnG.frz h hf fun _ _ _ hr => RepK.imp (fun _ _ => rfl) hm (fun _ _ => rfl) hr

/-! ### Leaves in objects -/
def LeafOk (w : World) (Im Pn : Nat → Prop) : Lf → Value → List Nat → Prop
  | .sc u, v, f => v = u ∧ u.oneCell' = true ∧ f = []
  | .lst .own e k xs, v, f => Own w Im e k xs v f
  | .lst .frz e k xs, v, f => f = [] ∧ Frz w Im k xs v
  | .lst .pin e k xs, v, f => f = [] ∧ Frz w Pn k xs v
  | .undef, v, f => v.oneCell' = true ∧ f = []
  | _, _, _ => False
theorem LeafOk.one {w : World} {Im Pn : Nat → Prop} {l : Lf} {v : Value} {f : List Nat} (h : LeafOk w Im Pn l v f) : v.oneCell' = true := by
  cases l with
  | sc u => exact h.1 ▸ h.2.1
  | lst m e k xs =>
    cases m with
    | own => obtain ⟨a, cap, rfl⟩ := OwnG.slice h; rfl
    | frz => obtain ⟨a, cap, rfl⟩ := FrzG.slice h.2; rfl
    | pin => obtain ⟨a, cap, rfl⟩ := FrzG.slice h.2; rfl
  | undef => exact h.1
  | _ => exact h.elim
theorem LeafOk.imp {w w' : World} {Im Im' Pn : Nat → Prop} {l : Lf} {v : Value} {f : List Nat} (h : LeafOk w Im Pn l v f) (hI : ∀ b, Im b → w'.heap[b]? = w.heap[b]?) (hm : ∀ b, Im b → Im' b)
    (hP : ∀ b, Pn b → w'.heap[b]? = w.heap[b]?) (hf : ∀ b ∈ f, w'.heap[b]? = w.heap[b]?) : LeafOk w' Im' Pn l v f := by
  cases l with
  | sc u => exact h
  | lst m e k xs =>
    cases m with
    | own => exact Own.imp hI hm hf h
    | frz => exact ⟨h.1, Frz.imp hI hm h.2⟩
    | pin => exact ⟨h.1, Frz.imp hP (fun _ h => h) h.2⟩
  | undef => exact h
  | _ => exact h.elim
def Md.set (Im Pn : Nat → Prop) : Md → Nat → Prop
  | .pin => Pn
  | _ => Im
structure SD where
  b : Nat
  vs : List Value
  fs : List (List Nat)
structure SlotOk (w : World) (Im Pn : Nat → Prop) (virt : Bool) (ls : List Lf) (d : SD) : Prop where
  box : virt = false → ∃ e, w.heap[d.b]? = some (.cells d.vs.toArray e (0, 0))
  vlen : d.vs.length = ls.length
  flen : d.fs.length = ls.length
  leaf : ∀ (i : Nat) (l : Lf), ls[i]? = some l → ∃ v f, d.vs[i]? = some v ∧ d.fs[i]? = some f ∧ LeafOk w Im Pn l v f
inductive Tag where
  | box (id : Nat)
  | leaf (id off : Nat)
  | fl (n : Nat)

/-! ### Temps -/
def TLeaf (w : World) (Im Pn : Nat → Prop) (σ : St) (D : Nat → SD) : Lf → Value → Prop
  | .sc u, v => v = u ∧ u.oneCell' = true
  | .nil _ _, v => v = .slice none 0 0
  | .lst .own _ _ _, _ => False
  | .lst .frz e k xs, v => Frz w Im k xs v
  | .lst .pin e k xs, v => Frz w Pn k xs v
  | .view id off, v => ∀ virt ls m e k xs, σ.get (2 * id + 1) = some (.slot virt ls) → ls[off]? = some (.lst m e k xs) → m ≠ .pin → (D id).vs[off]? = some v
  | .addr id off, v => ∀ ls, σ.get (2 * id + 1) = some (.slot false ls) → v = .pointer (some ⟨(D id).b, off, none⟩)
  | .eaddr id off i o, v => ∀ virt ls m e k xs, σ.get (2 * id + 1) = some (.slot virt ls) → ls[off]? = some (.lst m e k xs) → m ≠ .pin → i < xs.length →
      ∃ b p n c, (D id).vs[off]? = some (.slice (some ⟨b, p, none⟩) n c) ∧ v = .pointer (some ⟨b, p + i * k.w + o, none⟩)
  | .faddr k x o, v => ∃ b p arr e fr f, v = .pointer (some ⟨b, p + o, none⟩) ∧ w.heap[b]? = some (.cells arr e fr) ∧ Im b ∧ RepK w Im k x ((arr.toList.drop p).take k.w) f ∧ ∀ x ∈ f, Im x
  | .undef, _ => True
def VOk (w : World) (Im Pn : Nat → Prop) (σ : St) (D : Nat → SD) : V → Value → Prop
  | .one l, v => TLeaf w Im Pn σ D l v
  | .agg ls, v => ∃ vs, v = .agg vs.toArray ∧ All2 (TLeaf w Im Pn σ D) ls vs
  | .tup us, v => ∃ vs, v = .tuple vs.toArray ∧ All2 (fun (p : Bool × List Lf) v => match p.1 with
      | true => ∃ vs, v = .agg vs.toArray ∧ All2 (TLeaf w Im Pn σ D) p.2 vs
      | false => ∃ l, p.2 = [l] ∧ TLeaf w Im Pn σ D l v) us vs
  | .slot _ _, _ => False
theorem TLeaf.imp {w w' : World} {Im Im' Pn : Nat → Prop} {σ σ' : St} {D D' : Nat → SD} {l : Lf} {v : Value} (h : TLeaf w Im Pn σ D l v)
    (hI : ∀ b, Im b → w'.heap[b]? = w.heap[b]?) (hm : ∀ b, Im b → Im' b) (hP : ∀ b, Pn b → w'.heap[b]? = w.heap[b]?)
    (hv : ∀ id virt ls, id ∈ l.refs → σ'.get (2 * id + 1) = some (.slot virt ls) → ∃ ls0, σ.get (2 * id + 1) = some (.slot virt ls0) ∧ (virt = false → (D' id).b = (D id).b) ∧
      ∀ off m e k xs, l.hits id off = true → ls[off]? = some (.lst m e k xs) → m ≠ .pin → ∃ m0 e0 xs0, ls0[off]? = some (.lst m0 e0 k xs0) ∧ m0 ≠ .pin ∧ xs.length ≤ xs0.length ∧ (D' id).vs[off]? = (D id).vs[off]?) :
    TLeaf w' Im' Pn σ' D' l v := by
  cases l with
  | sc u => exact h
  | nil => exact h
  | lst m e k xs =>
    cases m with
    | own => exact h
    | frz => exact Frz.imp hI hm h
    | pin => exact Frz.imp hP (fun _ h => h) h
  | view id off =>
    intro virt ls m e k xs hg hl hp
    obtain ⟨ls0, h0, _, h2⟩ := hv id virt ls (by simp [Lf.refs]) hg
    obtain ⟨m0, e0, xs0, hl0, hp0, _, hd⟩ := h2 off m e k xs (by simp [Lf.hits]) hl hp
    rw [hd]
    exact h virt ls0 m0 e0 k xs0 h0 hl0 hp0
  | addr id off =>
    intro ls hg
    obtain ⟨ls0, h0, h1, _⟩ := hv id false ls (by simp [Lf.refs]) hg
    rw [h1 rfl]
    exact h ls0 h0
  | eaddr id off i o =>
    intro virt ls m e k xs hg hl hp hi
    obtain ⟨ls0, h0, _, h2⟩ := hv id virt ls (by simp [Lf.refs]) hg
    obtain ⟨m0, e0, xs0, hl0, hp0, hle, hd⟩ := h2 off m e k xs (by simp [Lf.hits]) hl hp
    rw [hd]
    exact h virt ls0 m0 e0 k xs0 h0 hl0 hp0 (by omega)
  | faddr k x o =>
    obtain ⟨b, p, arr, e, fr, f, h1, h2, h3, h4, h5⟩ := h
    exact ⟨b, p, arr, e, fr, f, h1, by rw [hI b h3]; exact h2, hm b h3, RepK.imp hI hm (fun b hb => hI b (h5 b hb)) h4, fun x hx => hm x (h5 x hx)⟩
  | undef => trivial
end Go.Vi
/- The abstract state against memory: the relation, and the small steps that keep it. -/
namespace Go.Vi
set_option linter.unusedVariables false
set_option linter.unusedSimpArgs false

structure Ct where
  w0 : World
  S0 : Nat → Prop
  A0 : Nat → Prop
  Pn : Nat → Prop
  args : Nat → Option Value
structure RM (C : Ct) (σ : St) (w : World) (Im : Nat → Prop) (D : Nat → SD) (own : Nat → Option Tag) : Prop where
  asc : σ.Asc
  os : w.os = C.w0.os
  tape : w.tape = C.w0.tape
  output : w.output = C.w0.output
  size : C.w0.heap.size ≤ w.heap.size
  frame : ∀ b, b < C.w0.heap.size → ¬ C.S0 b → w.heap[b]? = C.w0.heap[b]?
  imlt : ∀ b, Im b → b < w.heap.size
  imfrom : ∀ b, Im b → C.A0 b ∨ C.S0 b ∨ C.w0.heap.size ≤ b
  ima : ∀ b, C.A0 b → Im b
  pna : ∀ b, C.Pn b → C.A0 b
  ow : ∀ b t, own b = some t → ¬ Im b ∧ (C.S0 b ∨ C.w0.heap.size ≤ b) ∧ ∃ arr e, w.heap[b]? = some (.cells arr e (0, 0))
  slot : ∀ id virt ls, σ.get (2 * id + 1) = some (.slot virt ls) → SlotOk w Im C.Pn virt ls (D id) ∧ (virt = false → own (D id).b = some (.box id)) ∧
    ∀ (i : Nat) (f : List Nat) (x : Nat), (D id).fs[i]? = some f → x ∈ f → own x = some (.leaf id i)
structure RT (C : Ct) (nt : Nat) (σ : St) (w : World) (Im : Nat → Prop) (D : Nat → SD) (a : Act) : Prop where
  temp : ∀ t v, σ.get (2 * t) = some v → ∃ cv, a.tmps[t]? = some cv ∧ VOk w Im C.Pn σ D v cv
  defers : a.defers = []
  size : a.tmps.size = nt
  keep : ∀ i p, C.args i = some p → a.tmps[i]? = some p
def R (C : Ct) (nt : Nat) (σ : St) (a : Act) (w : World) : Prop := ∃ Im D own, RM C σ w Im D own ∧ RT C nt σ w Im D a

theorem RM.pnim {C σ w Im D own} (h : RM C σ w Im D own) : ∀ b, C.Pn b → Im b := fun b hb => h.ima b (h.pna b hb)
theorem All2.imp_mem {α β : Type} {p q : α → β → Prop} : ∀ {xs : List α} {ys : List β}, (∀ x ∈ xs, ∀ y, p x y → q x y) → All2 p xs ys → All2 q xs ys
  | [], [], _, _ => trivial
  | x :: xs, y :: ys, hpq, h => ⟨hpq x List.mem_cons_self _ h.1, All2.imp_mem (fun z hz => hpq z (List.mem_cons_of_mem _ hz)) h.2⟩
  | [], _ :: _, _, h => h.elim
  | _ :: _, [], _, h => h.elim
theorem VOk.imp {w w' : World} {Im Im' Pn : Nat → Prop} {σ σ' : St} {D D' : Nat → SD} {u : V} {v : Value} (h : VOk w Im Pn σ D u v)
    (hl : ∀ l v, ((∀ id, id ∈ l.refs → id ∈ u.refs) ∧ ∀ id off, l.hits id off = true → u.hits id off = true) → TLeaf w Im Pn σ D l v → TLeaf w' Im' Pn σ' D' l v) : VOk w' Im' Pn σ' D' u v := by
  have mr : ∀ (ls : List Lf) (l : Lf), l ∈ ls → ∀ id, id ∈ l.refs → id ∈ refsL ls := by
    intro ls
    induction ls with
    | nil => intro l hl; cases hl
    | cons x r ih =>
      intro l hl id hid
      simp only [refsL, List.mem_append]
      rcases List.mem_cons.1 hl with rfl | hl
      · exact .inl hid
      · exact .inr (ih l hl id hid)
  cases u with
  | one l => exact hl l v ⟨fun id h => h, fun id off h => h⟩ h
  | agg ls =>
    obtain ⟨vs, hv, ha⟩ := h
    exact ⟨vs, hv, All2.imp_mem (fun l hm v => hl l v ⟨mr ls l hm, fun id off hh => by
      simp only [V.hits, List.any_eq_true]
      exact ⟨l, hm, hh⟩⟩) ha⟩
  | tup us =>
    obtain ⟨vs, hv, ha⟩ := h
    refine ⟨vs, hv, All2.imp_mem (fun p hp v hpv => ?_) ha⟩
    have hr : ∀ l ∈ p.2, (∀ id, id ∈ l.refs → id ∈ (V.tup us).refs) ∧ ∀ id off, l.hits id off = true → (V.tup us).hits id off = true := fun l hm =>
      ⟨fun id hid => mr _ l (List.mem_flatMap.2 ⟨p, hp, hm⟩) id hid, fun id off hh => by
        simp only [V.hits, List.any_eq_true]
        exact ⟨p, hp, l, hm, hh⟩⟩
    obtain ⟨b, ls⟩ := p
    cases b with
    | true =>
      obtain ⟨vs', hv', ha'⟩ := hpv
      exact ⟨vs', hv', All2.imp_mem (fun l hm v => hl l v (hr l hm)) ha'⟩
    | false =>
      obtain ⟨l, hl1, hl2⟩ := hpv
      exact ⟨l, hl1, hl l v (hr l (by rw [hl1]; simp)) hl2⟩
  | slot _ _ => exact h.elim
/-- The temps' side of a step. -/
theorem RT.imp {C : Ct} {nt : Nat} {σ σ' : St} {w w' : World} {Im Im' : Nat → Prop} {D D' : Nat → SD} {a : Act} (h : RT C nt σ w Im D a)
    (hI : ∀ b, Im b → w'.heap[b]? = w.heap[b]?) (hm : ∀ b, Im b → Im' b) (hP : ∀ b, C.Pn b → Im b)
    (he : ∀ t v, σ'.get (2 * t) = some v → σ.get (2 * t) = some v)
    (hv : ∀ t u id virt ls, σ'.get (2 * t) = some u → id ∈ u.refs → σ'.get (2 * id + 1) = some (.slot virt ls) → ∃ ls0, σ.get (2 * id + 1) = some (.slot virt ls0) ∧ (virt = false → (D' id).b = (D id).b) ∧
      ∀ (off : Nat) m e k xs, u.hits id off = true → ls[off]? = some (.lst m e k xs) → m ≠ .pin → ∃ m0 e0 xs0, ls0[off]? = some (.lst m0 e0 k xs0) ∧ m0 ≠ .pin ∧ xs.length ≤ xs0.length ∧ (D' id).vs[off]? = (D id).vs[off]?) :
    RT C nt σ' w' Im' D' a := by
  refine ⟨fun t v hg => ?_, h.defers, h.size, h.keep⟩
  obtain ⟨cv, h1, h2⟩ := h.temp t v (he t v hg)
  refine ⟨cv, h1, h2.imp fun l v' hr hl => hl.imp hI hm (fun b hb => hI b (hP b hb)) fun id virt ls hid hs => ?_⟩
  obtain ⟨ls0, a1, a2, a3⟩ := hv t v id virt ls hg (hr.1 id hid) hs
  exact ⟨ls0, a1, a2, fun off m e k xs hh hl' hp => a3 off m e k xs (hr.2 id off hh) hl' hp⟩
/-- A temp is put. -/
theorem RT.put {C : Ct} {nt : Nat} {σ : St} {w : World} {Im : Nat → Prop} {D : Nat → SD} {a : Act} (h : RT C nt σ w Im D a) {d : Nat} (hd : d < nt ∧ C.args d = none) {v : V} {cv : Value}
    (hv : VOk w Im C.Pn σ D v cv) : RT C nt (σ.set (2 * d) (some v)) w Im D (a.put (some d) cv) := by
  have hodd : ∀ id, (σ.set (2 * d) (some v)).get (2 * id + 1) = σ.get (2 * id + 1) := fun id => St.get_set_ne σ _ (by omega)
  have hk : ∀ u cu, VOk w Im C.Pn σ D u cu → VOk w Im C.Pn (σ.set (2 * d) (some v)) D u cu := fun u cu hu =>
    hu.imp fun l v' _ hl => hl.imp (fun _ _ => rfl) (fun _ hb => hb) (fun _ _ => rfl) fun id virt ls _ hs => ⟨ls, by rw [← hodd]; exact hs, fun _ => rfl, fun off m e k xs _ hl hp => ⟨m, e, xs, hl, hp, Nat.le_refl _, rfl⟩⟩
  refine ⟨fun t u hg => ?_, h.defers, by simp [Act.put, h.size], fun i p hi => by
    have hne : d ≠ i := fun e => by rw [← e, hd.2] at hi; cases hi
    simp only [Act.put]
    rw [Array.getElem?_setIfInBounds_ne hne]
    exact h.keep i p hi⟩
  rw [St.get_set] at hg
  split at hg
  · rename_i ht
    have ht : t = d := by omega
    subst ht
    cases hg
    exact ⟨cv, by simp [Act.put, h.size, hd.1], hk _ _ hv⟩
  · rename_i ht
    obtain ⟨cu, h1, h2⟩ := h.temp t u hg
    exact ⟨cu, by simp only [Act.put]; rw [Array.getElem?_setIfInBounds_ne (by omega)]; exact h1, hk _ _ h2⟩
theorem RM.putTemp {C : Ct} {σ : St} {w : World} {Im : Nat → Prop} {D : Nat → SD} {own : Nat → Option Tag} (h : RM C σ w Im D own) (d : Nat) (v : Option V) : RM C (σ.set (2 * d) v) w Im D own :=
  { h with
    asc := h.asc.set _ _
    slot := fun id virt ls hg => h.slot id virt ls (by rw [← hg]; exact (St.get_set_ne σ _ (by omega)).symm) }
theorem R.put {C : Ct} {nt : Nat} {σ : St} {w : World} {Im : Nat → Prop} {D : Nat → SD} {own : Nat → Option Tag} {a : Act} (hm : RM C σ w Im D own) (ht : RT C nt σ w Im D a) {d : Nat} (hd : d < nt ∧ C.args d = none) {v : V} {cv : Value}
    (hv : VOk w Im C.Pn σ D v cv) : R C nt (σ.set (2 * d) (some v)) (a.put (some d) cv) w := ⟨Im, D, own, hm.putTemp d _, ht.put hd hv⟩
/-- A draw turns nothing. -/
theorem RM.drew {C : Ct} {σ : St} {w : World} {Im : Nat → Prop} {D : Nat → SD} {own : Nat → Option Tag} (h : RM C σ w Im D own) : RM C σ w.drew Im D own :=
  { h with
    os := h.os
    slot := fun id virt ls hg => by
      obtain ⟨h1, h2, h3⟩ := h.slot id virt ls hg
      refine ⟨⟨h1.box, h1.vlen, h1.flen, fun i l hl => ?_⟩, h2, h3⟩
      obtain ⟨v, f, a1, a2, a3⟩ := h1.leaf i l hl
      exact ⟨v, f, a1, a2, a3.imp (fun _ _ => rfl) (fun _ hb => hb) (fun _ _ => rfl) (fun _ _ => rfl)⟩ }
theorem RT.drew {C : Ct} {nt : Nat} {σ : St} {w : World} {Im : Nat → Prop} {D : Nat → SD} {a : Act} (h : RT C nt σ w Im D a) : RT C nt σ w.drew Im D a :=
  ⟨fun t v hg => by
    obtain ⟨cv, h1, h2⟩ := h.temp t v hg
    exact ⟨cv, h1, h2.imp fun l v' _ hl => hl.imp (fun _ _ => rfl) (fun _ hb => hb) (fun _ _ => rfl) fun id virt ls _ hs => ⟨ls, hs, fun _ => rfl, fun off m e k xs _ hl hp => ⟨m, e, xs, hl, hp, Nat.le_refl _, rfl⟩⟩⟩, h.defers, h.size, h.keep⟩

/-! ### What a leaf of an object gives -/
theorem RM.leaf {C : Ct} {σ : St} {w : World} {Im : Nat → Prop} {D : Nat → SD} {own : Nat → Option Tag} (h : RM C σ w Im D own) {id : Nat} {virt : Bool} {ls : List Lf}
    (hg : σ.get (2 * id + 1) = some (.slot virt ls)) {i : Nat} {l : Lf} (hl : ls[i]? = some l) :
    ∃ v f, (D id).vs[i]? = some v ∧ (D id).fs[i]? = some f ∧ LeafOk w Im C.Pn l v f ∧ ∀ x ∈ f, own x = some (.leaf id i) := by
  obtain ⟨h1, _, h3⟩ := h.slot id virt ls hg
  obtain ⟨v, f, a1, a2, a3⟩ := h1.leaf i l hl
  exact ⟨v, f, a1, a2, a3, fun x hx => h3 i f x a2 hx⟩
/-- One leaf of an object is another one, with what it owns. Memory stays. -/
theorem RM.setLeaf {C : Ct} {σ : St} {w : World} {Im : Nat → Prop} {D : Nat → SD} {own : Nat → Option Tag} (h : RM C σ w Im D own) {id : Nat} {virt : Bool} {ls : List Lf}
    (hg : σ.get (2 * id + 1) = some (.slot virt ls)) {i : Nat} {l : Lf} (hl : ls[i]? = some l) {l' : Lf} {v : Value} (hv : (D id).vs[i]? = some v)
    {Im' : Nat → Prop} (hm : ∀ b, Im b → Im' b) (hmo : ∀ b, Im' b → Im b ∨ (own b = some (.leaf id i) ∧ b < w.heap.size))
    {own' : Nat → Option Tag} (hl' : LeafOk w Im' C.Pn l' v [])
    (hown : ∀ b, own b ≠ some (.leaf id i) → own' b = own b) (how' : ∀ b t, own' b = some t → ¬ Im' b ∧ ∃ t', own b = some t') :
    RM C (σ.set (2 * id + 1) (some (.slot virt (ls.set i l')))) w Im' (fun j => if j = id then { D id with fs := (D id).fs.set i [] } else D j) own' := by
  have hfrom : ∀ b, Im' b → C.A0 b ∨ C.S0 b ∨ C.w0.heap.size ≤ b := fun b hb => by
    rcases hmo b hb with hb | ⟨hb, _⟩
    · exact h.imfrom b hb
    · exact .inr (h.ow b _ hb).2.1
  refine { h with asc := h.asc.set _ _, imlt := ?_, imfrom := hfrom, ima := fun b hb => hm b (h.ima b hb), ow := ?_, slot := ?_ }
  · intro b hb
    rcases hmo b hb with hb | ⟨_, hb⟩
    · exact h.imlt b hb
    · exact hb
  · intro b t hb
    obtain ⟨h1, t', h2⟩ := how' b t hb
    exact ⟨h1, (h.ow b t' h2).2⟩
  · intro j virt' ls' hg'
    rw [St.get_set] at hg'
    by_cases hj : j = id
    · subst hj
      simp only [if_true] at hg' ⊢
      cases hg'
      obtain ⟨h1, h2, h3⟩ := h.slot j virt ls hg
      have hi : i < ls.length := (List.getElem?_eq_some_iff.1 hl).1
      refine ⟨⟨h1.box, by simp [h1.vlen], by simp [h1.flen], fun n m hm' => ?_⟩, fun hvt => ?_, fun n f x hf hx => ?_⟩
      · by_cases hn : n = i
        · subst hn
          simp only [List.getElem?_set, hi, if_true] at hm'
          cases hm'
          exact ⟨v, [], hv, by simp [h1.flen, hi], hl'⟩
        · rw [List.getElem?_set_ne (Ne.symm hn)] at hm'
          obtain ⟨v', f, a1, a2, a3⟩ := h1.leaf n m hm'
          refine ⟨v', f, a1, by rw [List.getElem?_set_ne (Ne.symm hn)]; exact a2, a3.imp (fun _ _ => rfl) hm (fun _ _ => rfl) (fun _ _ => rfl)⟩
      · rw [hown _ (by rw [h2 hvt]; simp)]
        exact h2 hvt
      · by_cases hn : n = i
        · subst hn
          simp [h1.flen, hi] at hf
          subst hf
          cases hx
        · rw [List.getElem?_set_ne (Ne.symm hn)] at hf
          rw [hown _ (by rw [h3 n f x hf hx]; simp; exact hn)]
          exact h3 n f x hf hx
    · have hne : 2 * j + 1 ≠ 2 * id + 1 := by omega
      rw [if_neg hne] at hg'
      simp only [hj, if_false]
      obtain ⟨h1, h2, h3⟩ := h.slot j virt' ls' hg'
      refine ⟨⟨h1.box, h1.vlen, h1.flen, fun n m hm' => ?_⟩, fun hvt => ?_, fun n f x hf hx => ?_⟩
      · obtain ⟨v', f, a1, a2, a3⟩ := h1.leaf n m hm'
        exact ⟨v', f, a1, a2, a3.imp (fun _ _ => rfl) hm (fun _ _ => rfl) (fun _ _ => rfl)⟩
      · rw [hown _ (by rw [h2 hvt]; simp)]
        exact h2 hvt
      · rw [hown _ (by rw [h3 n f x hf hx]; simp; intro hh; exact absurd hh hj)]
        exact h3 n f x hf hx
theorem RT.setLeaf {C : Ct} {nt : Nat} {σ : St} {w : World} {Im : Nat → Prop} {D : Nat → SD} {a : Act} (h : RT C nt σ w Im D a) (hP : ∀ b, C.Pn b → Im b) {id : Nat} {virt : Bool} {ls : List Lf}
    (hg : σ.get (2 * id + 1) = some (.slot virt ls)) {i : Nat} {l' : Lf} (hi : i < ls.length) (fs : List (List Nat))
    (hl' : ∀ m e k xs, l' = .lst m e k xs → ∃ m0 e0, ls[i]? = some (.lst m0 e0 k xs) ∧ m0 ≠ .pin) {Im' : Nat → Prop} (hm : ∀ b, Im b → Im' b) :
    RT C nt (σ.set (2 * id + 1) (some (.slot virt (ls.set i l')))) w Im' (fun j => if j = id then { D id with fs := fs } else D j) a := by
  refine h.imp (fun _ _ => rfl) hm hP (fun t v hg' => by rw [← hg']; exact (St.get_set_ne σ _ (by omega)).symm) fun t u j virt' ls' hu hid hg' => ?_
  rw [St.get_set] at hg'
  by_cases hj : j = id
  · subst hj
    simp only [if_true] at hg' ⊢
    cases hg'
    refine ⟨ls, hg, fun _ => trivial, fun off m e k xs hh hl hp => ?_⟩
    by_cases ho : off = i
    · subst ho
      simp only [List.getElem?_set, hi, if_true] at hl
      obtain ⟨m0, e0, h0, h0'⟩ := hl' m e k xs (by simpa using hl)
      exact ⟨m0, e0, xs, h0, h0', Nat.le_refl _, trivial⟩
    · rw [List.getElem?_set_ne (Ne.symm ho)] at hl
      exact ⟨m, e, xs, hl, hp, Nat.le_refl _, trivial⟩
  · have hne : 2 * j + 1 ≠ 2 * id + 1 := by omega
    rw [if_neg hne] at hg'
    simp only [hj, if_false]
    exact ⟨ls', hg', fun _ => trivial, fun off m e k xs _ hl hp => ⟨m, e, xs, hl, hp, Nat.le_refl _, trivial⟩⟩
end Go.Vi
/- Leaves that are taken to be stored. -/
namespace Go.Vi
set_option linter.unusedVariables false
set_option linter.unusedSimpArgs false
variable {orc : Orc} {C : Ct} {nt : Nat} {σ σ' : St} {w w' : World} {Im Im' : Nat → Prop} {D D' : Nat → SD} {own own' : Nat → Option Tag} {a : Act} {lg : List Ac}

theorem listM_run {id off : Nat} {f : Bool → List Lf → Md → (e : TypeId) → (k : Kd) → List k.T → M} (h : Run orc (listM id off f) σ lg) :
    ∃ virt ls m e k xs lg', σ.get (2 * id + 1) = some (.slot virt ls) ∧ ls[off]? = some (.lst m e k xs) ∧ m ≠ .pin ∧ Run orc (f virt ls m e k xs) σ lg' ∧ apps lg σ = apps lg' σ := by
  unfold listM at h
  cases h with
  | rd h =>
    generalize hg : σ.get (2 * id + 1) = o at h
    cases o with
    | none => cases h
    | some v =>
      cases v with
      | slot virt ls =>
        simp only [] at h
        generalize hl : ls[off]? = q at h
        cases q with
        | none => cases h
        | some l =>
          cases l with
          | lst m e k xs =>
            cases m with
            | own => exact ⟨virt, ls, .own, e, k, xs, _, rfl, hl, by simp, h, rfl⟩
            | frz => exact ⟨virt, ls, .frz, e, k, xs, _, rfl, hl, by simp, h, rfl⟩
            | pin => cases h
          | _ => cases h
      | _ => cases h
theorem valM_run (ht : RT C nt σ w Im D a) {x : Operand} {f : V → M} (h : Run orc (valM x f) σ lg) :
    ∃ v lg', Run orc (f v) σ lg' ∧ apps lg σ = apps lg' σ ∧ VOk w Im C.Pn σ D v (a.eval x) := by
  unfold valM at h
  cases x with
  | tmp t =>
    simp only [] at h
    cases h with
    | rd h =>
      generalize hg : σ.get (2 * t) = o at h
      cases o with
      | none => cases h
      | some v =>
        obtain ⟨cv, h1, h2⟩ := ht.temp t v hg
        refine ⟨v, _, h, rfl, ?_⟩
        simp only [Act.eval, Array.getD_eq_getD_getElem?, h1, Option.getD_some]
        exact h2
  | const v =>
    have hsc : ∀ u : Value, u.oneCell' = true → VOk w Im C.Pn σ D (.one (.sc u)) (a.eval (.const u)) := fun u hu => ⟨rfl, hu⟩
    cases v with
    | agg cs =>
      simp only [] at h
      split at h
      · rename_i ho
        refine ⟨_, lg, h, rfl, cs.toList, by simp [Act.eval], ?_⟩
        have hone : ∀ l : List Value, ones l = true → All2 (TLeaf w Im C.Pn σ D) (l.map .sc) l := by
          intro l
          induction l with
          | nil => intro _; trivial
          | cons y r ih =>
            intro hy
            have : y.oneCell' = true ∧ ones r = true := by cases y <;> first | (simp [ones] at hy; done) | (simp only [ones] at hy; exact ⟨rfl, hy⟩)
            exact ⟨⟨rfl, this.1⟩, ih this.2⟩
        exact hone _ ho
      · cases h
    | tuple us => cases h
    | _ => exact ⟨_, lg, h, rfl, hsc _ rfl⟩
  | func g => exact ⟨_, lg, h, rfl, rfl, rfl⟩
  | global g => cases h

structure Ext (C : Ct) (nt : Nat) (a : Act) (w : World) (σ : St) (Im : Nat → Prop) (D : Nat → SD) (own : Nat → Option Tag) (σ' : St) (Im' : Nat → Prop) (D' : Nat → SD) (own' : Nat → Option Tag) (fr : Nat → Prop) : Prop where
  rm : RM C σ' w Im' D' own'
  rt : RT C nt σ' w Im' D' a
  im : ∀ b, Im b → Im' b
  tl : ∀ l v, TLeaf w Im C.Pn σ D l v → TLeaf w Im' C.Pn σ' D' l v
  ev : ∀ t, σ'.get (2 * t) = σ.get (2 * t)
  fl : ∀ x m, own x = some (.fl m) → own' x = some (.fl m)
  bx : ∀ x id, own x = some (.box id) → own' x = some (.box id)
  fo : ∀ x m, own' x = some (.fl m) → own x = some (.fl m) ∨ fr m
  lo : ∀ x id off, own' x = some (.leaf id off) → own x = some (.leaf id off)
  db : ∀ j, (D' j).b = (D j).b ∧ (D' j).vs = (D j).vs
  od : ∀ id virt ls', σ'.get (2 * id + 1) = some (.slot virt ls') → ∃ ls, σ.get (2 * id + 1) = some (.slot virt ls) ∧ ls'.length = ls.length ∧
    ∀ (off : Nat) l', ls'[off]? = some l' → ls[off]? = some l' ∨ l' = .undef ∨ ∃ e k xs, l' = .lst .frz e k xs ∧ ls[off]? = some (.lst .own e k xs)
theorem Ext.refl (hm : RM C σ w Im D own) (ht : RT C nt σ w Im D a) : Ext C nt a w σ Im D own σ Im D own (fun _ => False) :=
  ⟨hm, ht, fun _ h => h, fun _ _ h => h, fun _ => rfl, fun _ _ h => h, fun _ _ h => h, fun _ _ h => .inl h, fun _ _ _ h => h, fun _ => ⟨rfl, rfl⟩, fun id virt ls h => ⟨ls, h, rfl, fun _ _ h => .inl h⟩⟩
theorem Ext.trans {σ'' : St} {Im'' : Nat → Prop} {D'' : Nat → SD} {own'' : Nat → Option Tag} {fr fr' : Nat → Prop} (h : Ext C nt a w σ Im D own σ' Im' D' own' fr)
    (g : Ext C nt a w σ' Im' D' own' σ'' Im'' D'' own'' fr') : Ext C nt a w σ Im D own σ'' Im'' D'' own'' (fun n => fr n ∨ fr' n) := by
  refine ⟨g.rm, g.rt, fun b hb => g.im b (h.im b hb), fun l v hl => g.tl l v (h.tl l v hl), fun t => (g.ev t).trans (h.ev t), fun x m hx => g.fl x m (h.fl x m hx), fun x id hx => g.bx x id (h.bx x id hx), ?_,
    fun x id off hx => h.lo x id off (g.lo x id off hx), fun j => ⟨(g.db j).1.trans (h.db j).1, (g.db j).2.trans (h.db j).2⟩, ?_⟩
  · intro x m hx
    rcases g.fo x m hx with hx | hx
    · rcases h.fo x m hx with hx | hx
      · exact .inl hx
      · exact .inr (.inl hx)
    · exact .inr (.inr hx)
  · intro id virt ls'' hs
    obtain ⟨ls', h1, h2, h3⟩ := g.od id virt ls'' hs
    obtain ⟨ls, k1, k2, k3⟩ := h.od id virt ls' h1
    refine ⟨ls, k1, h2.trans k2, fun off l hl => ?_⟩
    rcases h3 off l hl with hl | hl | ⟨e, k, xs, rfl, hl2⟩
    · exact k3 off l hl
    · exact .inr (.inl hl)
    · rcases k3 off _ hl2 with hl | hl | ⟨_, _, _, hl, _⟩
      · exact .inr (.inr ⟨e, k, xs, rfl, hl⟩)
      · cases hl
      · cases hl
/-- The shape that both ways of taking a list have. -/
theorem ext_setLeaf (hm : RM C σ w Im D own) (ht : RT C nt σ w Im D a) {id : Nat} {virt : Bool} {ls : List Lf}
    (hg : σ.get (2 * id + 1) = some (.slot virt ls)) {i : Nat} {e : TypeId} {k : Kd} {xs : List k.T} (hl : ls[i]? = some (.lst .own e k xs)) {l' : Lf} {v : Value} (hv : (D id).vs[i]? = some v)
    {Im' : Nat → Prop} (hmo : ∀ b, Im b → Im' b) (hmi : ∀ b, Im' b → Im b ∨ (own b = some (.leaf id i) ∧ b < w.heap.size))
    {own' : Nat → Option Tag} (hl' : LeafOk w Im' C.Pn l' v []) (hsh : l' = .undef ∨ l' = .lst .frz e k xs)
    (hown : ∀ b, own b ≠ some (.leaf id i) → own' b = own b) (how' : ∀ b t, own' b = some t → ¬ Im' b ∧ ∃ t', own b = some t')
    {fr : Nat → Prop} (hfo : ∀ x m, own' x = some (.fl m) → own x = some (.fl m) ∨ fr m) (hlo : ∀ x id off, own' x = some (.leaf id off) → own x = some (.leaf id off)) :
    Ext C nt a w σ Im D own (σ.set (2 * id + 1) (some (.slot virt (ls.set i l')))) Im' (fun j => if j = id then { D id with fs := (D id).fs.set i [] } else D j) own' fr := by
  have hi : i < ls.length := (List.getElem?_eq_some_iff.1 hl).1
  have hsh' : ∀ m e' k' xs', l' = .lst m e' k' xs' → ∃ m0 e0, ls[i]? = some (.lst m0 e0 k' xs') ∧ m0 ≠ .pin := by
    intro m e' k' xs' he
    rcases hsh with rfl | rfl
    · cases he
    · cases he; exact ⟨_, _, hl, by simp⟩
  refine ⟨hm.setLeaf hg hl hv hmo hmi hl' hown how', ht.setLeaf hm.pnim hg hi _ hsh' hmo, hmo, fun l u hu => ?_, fun t => St.get_set_ne σ _ (by omega), fun x m hx => by rw [hown x (by rw [hx]; simp)]; exact hx,
    fun x j hx => by rw [hown x (by rw [hx]; simp)]; exact hx, hfo, hlo, fun j => ?_, fun j virt' ls' hs => ?_⟩
  · refine hu.imp (fun _ _ => rfl) hmo (fun _ _ => rfl) fun j virt' ls' _ hs => ?_
    rw [St.get_set] at hs
    by_cases hj : j = id
    · subst hj
      simp only [if_true] at hs ⊢
      cases hs
      refine ⟨ls, hg, fun _ => trivial, fun off m e' k' xs' _ hl2 hp => ?_⟩
      by_cases ho : off = i
      · subst ho
        simp only [List.getElem?_set, hi, if_true] at hl2
        obtain ⟨m0, e0, h0, h0'⟩ := hsh' m e' k' xs' (by simpa using hl2)
        exact ⟨m0, e0, xs', h0, h0', Nat.le_refl _, trivial⟩
      · rw [List.getElem?_set_ne (Ne.symm ho)] at hl2
        exact ⟨m, e', xs', hl2, hp, Nat.le_refl _, trivial⟩
    · have hne : 2 * j + 1 ≠ 2 * id + 1 := by omega
      rw [if_neg hne] at hs
      simp only [hj, if_false]
      exact ⟨ls', hs, fun _ => trivial, fun off m e k xs _ hl hp => ⟨m, e, xs, hl, hp, Nat.le_refl _, trivial⟩⟩
  · by_cases hj : j = id
    · subst hj; simp
    · simp [hj]
  · rw [St.get_set] at hs
    by_cases hj : j = id
    · subst hj
      simp only [if_true] at hs
      cases hs
      refine ⟨ls, hg, by simp, fun off l2 hl2 => ?_⟩
      by_cases ho : off = i
      · subst ho
        simp only [List.getElem?_set, hi, if_true] at hl2
        have hl2 : l' = l2 := by simpa using hl2
        subst hl2
        rcases hsh with rfl | rfl
        · exact .inr (.inl rfl)
        · exact .inr (.inr ⟨e, k, xs, rfl, hl⟩)
      · rw [List.getElem?_set_ne (Ne.symm ho)] at hl2
        exact .inl hl2
    · have hne : 2 * j + 1 ≠ 2 * id + 1 := by omega
      rw [if_neg hne] at hs
      exact ⟨ls', hs, rfl, fun _ _ h => .inl h⟩
/-- A list is taken out of its place. -/
theorem take_own (hm : RM C σ w Im D own) (ht : RT C nt σ w Im D a) {id : Nat} {virt : Bool} {ls : List Lf}
    (hg : σ.get (2 * id + 1) = some (.slot virt ls)) {i : Nat} {e : TypeId} {k : Kd} {xs : List k.T} (hl : ls[i]? = some (.lst .own e k xs)) (n : Nat) :
    ∃ v f D' own', (D id).vs[i]? = some v ∧ Ext C nt a w σ Im D own (σ.set (2 * id + 1) (some (.slot virt (ls.set i .undef)))) Im D' own' (· = n) ∧ Own w Im e k xs v f ∧ ∀ x ∈ f, own' x = some (.fl n) := by
  obtain ⟨v, f, h1, h2, h3, h4⟩ := hm.leaf hg hl
  refine ⟨v, f, _, fun x => if x ∈ f then some (.fl n) else own x, h1, ext_setLeaf hm ht hg hl h1 (fun _ h => h) (fun _ h => .inl h) (l' := .undef) ⟨h3.one, rfl⟩ (.inl rfl) (fun b hb => ?_) (fun b t hb => ?_) (fun x m hx => ?_) (fun x id off hx => ?_), h3, fun x hx => by simp [hx]⟩
  · rw [if_neg]; intro hf; exact hb (h4 b hf)
  · split at hb
    · rename_i hf
      exact ⟨(hm.ow b _ (h4 b hf)).1, _, h4 b hf⟩
    · exact ⟨(hm.ow b t hb).1, _, hb⟩
  · split at hx
    · exact .inr (by cases hx; rfl)
    · exact .inl hx
  · split at hx
    · cases hx
    · exact hx
theorem lt_of_heap {w : World} {b : Nat} {o : Obj} (h : w.heap[b]? = some o) : b < w.heap.size := (Array.getElem?_eq_some_iff.1 h).1
/-- A list is frozen where it lies. -/
theorem freeze_own (hm : RM C σ w Im D own) (ht : RT C nt σ w Im D a) {id : Nat} {virt : Bool} {ls : List Lf}
    (hg : σ.get (2 * id + 1) = some (.slot virt ls)) {i : Nat} {e : TypeId} {k : Kd} {xs : List k.T} (hl : ls[i]? = some (.lst .own e k xs)) :
    ∃ v Im' D' own', (D id).vs[i]? = some v ∧ Ext C nt a w σ Im D own (σ.set (2 * id + 1) (some (.slot virt (ls.set i (.lst .frz e k xs))))) Im' D' own' (fun _ => False) ∧ Frz w Im' k xs v := by
  obtain ⟨v, f, h1, h2, h3, h4⟩ := hm.leaf hg hl
  have hfz : Frz w (fun b => Im b ∨ b ∈ f) k xs v := Own.frz h3 (fun _ => .inl) (fun _ => .inr)
  refine ⟨v, fun b => Im b ∨ b ∈ f, _, fun x => if x ∈ f then none else own x, h1, ext_setLeaf hm ht hg hl h1 (fun _ => .inl) (fun b hb => ?_) (l' := .lst .frz e k xs) ⟨rfl, hfz⟩ (.inr rfl) (fun b hb => ?_) (fun b t hb => ?_) (fun x m hx => ?_) (fun x id off hx => ?_), hfz⟩
  · rcases hb with hb | hb
    · exact .inl hb
    · obtain ⟨_, _, arr, e', hh⟩ := hm.ow b _ (h4 b hb)
      exact .inr ⟨h4 b hb, lt_of_heap hh⟩
  · rw [if_neg]; intro hf; exact hb (h4 b hf)
  · split at hb
    · cases hb
    · rename_i hf
      exact ⟨fun hi => hi.elim (hm.ow b t hb).1 hf, _, hb⟩
  · split at hx
    · cases hx
    · exact .inl hx
  · split at hx
    · cases hx
    · exact hx
/-- A leaf is taken to be stored. -/
theorem absorb_ok (hm : RM C σ w Im D own) (ht : RT C nt σ w Im D a) {mv : Bool} {l : Lf} {k : Lf → M} (h : Run orc (absorbM mv l k) σ lg) {v : Value} (hv : TLeaf w Im C.Pn σ D l v) (n : Nat) :
    ∃ l' lg' σ' Im' D' own' f, Run orc (k l') σ' lg' ∧ apps lg σ = apps lg' σ' ∧ Ext C nt a w σ Im D own σ' Im' D' own' (· = n) ∧ LeafOk w Im' C.Pn l' v f ∧ ∀ x ∈ f, own' x = some (.fl n) := by
  have hrefl : Ext C nt a w σ Im D own σ Im D own (· = n) := { Ext.refl hm ht with fo := fun _ _ h => .inl h }
  cases l with
  | sc u => exact ⟨_, lg, σ, Im, D, own, [], h, rfl, hrefl, ⟨hv.1, hv.2, rfl⟩, fun _ hx => by cases hx⟩
  | nil e kd =>
    have hv : v = .slice none 0 0 := hv
    subst hv
    exact ⟨_, lg, σ, Im, D, own, [], h, rfl, hrefl, ⟨[], [], ⟨by simp, .inl ⟨rfl, rfl⟩⟩, ⟨by simp, rfl, fun i x hx => by simp at hx⟩, rfl, List.nodup_nil⟩, fun _ hx => by cases hx⟩
  | lst m e kd xs =>
    cases m with
    | own => exact hv.elim
    | frz => exact ⟨_, lg, σ, Im, D, own, [], h, rfl, hrefl, ⟨rfl, hv⟩, fun _ hx => by cases hx⟩
    | pin => exact ⟨_, lg, σ, Im, D, own, [], h, rfl, hrefl, ⟨rfl, hv⟩, fun _ hx => by cases hx⟩
  | view id off =>
    obtain ⟨virt, ls, m, e, kd, xs, lg', hg, hl, hp, hr, ha⟩ := listM_run h
    have hval : (D id).vs[off]? = some v := hv virt ls m e kd xs hg hl hp
    have other : ∀ m', (m' = .frz ∨ m' = .pin) → m = m' → Run orc (k (.lst m' e kd xs)) σ lg' →
        ∃ l' lg' σ' Im' D' own' f, Run orc (k l') σ' lg' ∧ apps lg σ = apps lg' σ' ∧ Ext C nt a w σ Im D own σ' Im' D' own' (· = n) ∧ LeafOk w Im' C.Pn l' v f ∧ ∀ x ∈ f, own' x = some (.fl n) := by
      intro m' hm' he hr
      subst he
      obtain ⟨v', f, h1, h2, h3, h4⟩ := hm.leaf hg hl
      have hvv : v' = v := by rw [hval] at h1; cases h1; rfl
      subst hvv
      rcases hm' with rfl | rfl <;> exact ⟨_, lg', σ, Im, D, own, [], hr, ha, hrefl, ⟨rfl, h3.2⟩, fun _ hx => by cases hx⟩
    cases m with
    | frz =>
      simp only [] at hr
      exact other .frz (.inl rfl) rfl hr
    | pin =>
      simp only [] at hr
      exact other .pin (.inr rfl) rfl hr
    | own =>
      cases hb : (mv || virt) with
      | true =>
        rw [hb] at hr
        cases hr with
        | wr hr =>
          obtain ⟨v', f, D', own', h1, h2, h3, h4⟩ := take_own hm ht hg hl n
          have hvv : v' = v := by rw [hval] at h1; cases h1; rfl
          subst hvv
          exact ⟨_, _, _, Im, D', own', f, hr, ha, h2, h3, h4⟩
      | false =>
        rw [hb] at hr
        cases hr with
        | wr hr =>
          obtain ⟨v', Im', D', own', h1, h2, h3⟩ := freeze_own hm ht hg hl
          have hvv : v' = v := by rw [hval] at h1; cases h1; rfl
          subst hvv
          exact ⟨_, _, _, Im', D', own', [], hr, ha, { h2 with fo := fun x m hx => (h2.fo x m hx).imp (fun h => h) False.elim }, ⟨rfl, h3⟩, fun _ hx => by cases hx⟩
  | _ => cases h
/-- Leaves that were taken, with what each owns. -/
def Taken (w : World) (Im Pn : Nat → Prop) (own : Nat → Option Tag) : Nat → List Lf → List Value → List (List Nat) → Prop
  | _, [], [], [] => True
  | n, l :: ls, v :: vs, f :: fs => (LeafOk w Im Pn l v f ∧ ∀ x ∈ f, own x = some (.fl n)) ∧ Taken w Im Pn own (n + 1) ls vs fs
  | _, _, _, _ => False
theorem absorbs_ok {mv : Bool} : ∀ (ls : List Lf) {k : List Lf → M} {σ : St} {Im : Nat → Prop} {D : Nat → SD} {own : Nat → Option Tag} {lg : List Ac} {vs : List Value} (n : Nat) (hm : RM C σ w Im D own) (ht : RT C nt σ w Im D a)
    (h : Run orc (absorbsM mv ls k) σ lg) (hv : All2 (TLeaf w Im C.Pn σ D) ls vs),
    ∃ ls' lg' σ' Im' D' own' fs, Run orc (k ls') σ' lg' ∧ apps lg σ = apps lg' σ' ∧ Ext C nt a w σ Im D own σ' Im' D' own' (fun m => n ≤ m ∧ m < n + ls.length) ∧ Taken w Im' C.Pn own' n ls' vs fs
  | [], k, σ, Im, D, own, lg, vs, n, hm, ht, h, hv => by
    cases vs with
    | nil => exact ⟨[], lg, σ, Im, D, own, [], h, rfl, { Ext.refl hm ht with fo := fun _ _ h => .inl h }, trivial⟩
    | cons _ _ => exact hv.elim
  | l :: r, k, σ, Im, D, own, lg, vs, n, hm, ht, h, hv => by
    cases vs with
    | nil => exact hv.elim
    | cons v vs =>
      obtain ⟨l', lg1, σ1, Im1, D1, own1, f, h1, h2, h3, h4, h5⟩ := absorb_ok hm ht h hv.1 n
      obtain ⟨r', lg2, σ2, Im2, D2, own2, fs, k1, k2, k3, k4⟩ := absorbs_ok r (n + 1) h3.rm h3.rt h1 (hv.2.imp h3.tl)
      refine ⟨l' :: r', lg2, σ2, Im2, D2, own2, f :: fs, k1, h2.trans k2, { h3.trans k3 with fo := fun x m hx => ?_ }, ⟨h4.imp (fun _ _ => rfl) k3.im (fun _ _ => rfl) (fun _ _ => rfl), fun x hx => k3.fl x n (h5 x hx)⟩, k4⟩
      rcases (h3.trans k3).fo x m hx with hx | hx | hx
      · exact .inl hx
      · exact .inr (by subst hx; simp)
      · exact .inr (by simp; omega)
theorem Taken.get {Pn : Nat → Prop} : ∀ {ls : List Lf} {vs : List Value} {fs : List (List Nat)} {n : Nat}, Taken w Im Pn own n ls vs fs → vs.length = ls.length ∧ fs.length = ls.length ∧
    ∀ (i : Nat) l, ls[i]? = some l → ∃ v f, vs[i]? = some v ∧ fs[i]? = some f ∧ LeafOk w Im Pn l v f ∧ ∀ x ∈ f, own x = some (.fl (n + i))
  | [], [], [], n, _ => ⟨rfl, rfl, fun i l h => by simp at h⟩
  | l :: ls, v :: vs, f :: fs, n, h => by
    obtain ⟨h1, h2, h3⟩ := Taken.get h.2
    refine ⟨by simp [h1], by simp [h2], fun i m hm => ?_⟩
    cases i with
    | zero => simp at hm; subst hm; exact ⟨v, f, rfl, rfl, h.1.1, h.1.2⟩
    | succ i =>
      simp at hm
      obtain ⟨u, g, a1, a2, a3, a4⟩ := h3 i m hm
      exact ⟨u, g, by simpa using a1, by simpa using a2, a3, fun x hx => by rw [a4 x hx]; congr 2; omega⟩
  | [], [], _ :: _, _, h => h.elim
  | [], _ :: _, _, _, h => h.elim
  | _ :: _, [], _, _, h => h.elim
  | _ :: _, _ :: _, [], _, h => h.elim
end Go.Vi
/- New memory and new objects; the operations that only compute. -/
namespace Go.Vi
set_option linter.unusedVariables false
set_option linter.unusedSimpArgs false
variable {P : Program} {orc : Orc} {C : Ct} {nt : Nat} {σ σ' : St} {w w' : World} {Im Im' : Nat → Prop} {D D' : Nat → SD} {own own' : Nat → Option Tag} {a : Act} {lg : List Ac}

/-! ### Memory that grows -/
structure Grows (w w' : World) : Prop where
  os : w'.os = w.os
  tape : w'.tape = w.tape
  output : w'.output = w.output
  size : w.heap.size ≤ w'.heap.size
  block : ∀ b, b < w.heap.size → w'.heap[b]? = w.heap[b]?
theorem Grows.alloc (w : World) (o : Obj) : Grows w (w.alloc o) := ⟨rfl, rfl, rfl, by simp, fun b hb => by show (w.heap.push o)[b]? = _; rw [Array.getElem?_push, if_neg (by omega)]⟩
theorem Grows.drew (w : World) : Grows w w.drew := ⟨rfl, rfl, rfl, Nat.le_refl _, fun _ _ => rfl⟩
theorem Grows.trans {w1 w2 w3 : World} (h : Grows w1 w2) (g : Grows w2 w3) : Grows w1 w3 :=
  ⟨g.os.trans h.os, g.tape.trans h.tape, g.output.trans h.output, Nat.le_trans h.size g.size, fun b hb => (g.block b (Nat.lt_of_lt_of_le hb h.size)).trans (h.block b hb)⟩
theorem RM.olt (h : RM C σ w Im D own) {b : Nat} {t : Tag} (hb : own b = some t) : b < w.heap.size := by
  obtain ⟨_, _, arr, e, hh⟩ := h.ow b t hb
  exact lt_of_heap hh
theorem RM.grow (h : RM C σ w Im D own) (g : Grows w w') : RM C σ w' Im D own := by
  refine { h with os := g.os.trans h.os, tape := g.tape.trans h.tape, output := g.output.trans h.output, size := Nat.le_trans h.size g.size, frame := fun b hb hs => ?_, imlt := fun b hb => Nat.lt_of_lt_of_le (h.imlt b hb) g.size, ow := fun b t hb => ?_, slot := fun id virt ls hg => ?_ }
  · rw [g.block b (Nat.lt_of_lt_of_le hb h.size)]; exact h.frame b hb hs
  · obtain ⟨h1, h2, arr, e, hh⟩ := h.ow b t hb
    exact ⟨h1, h2, arr, e, by rw [g.block b (lt_of_heap hh)]; exact hh⟩
  · obtain ⟨h1, h2, h3⟩ := h.slot id virt ls hg
    refine ⟨⟨fun hv => ?_, h1.vlen, h1.flen, fun i l hl => ?_⟩, h2, h3⟩
    · obtain ⟨e, he⟩ := h1.box hv
      exact ⟨e, by rw [g.block _ (lt_of_heap he)]; exact he⟩
    · obtain ⟨v, f, a1, a2, a3⟩ := h1.leaf i l hl
      exact ⟨v, f, a1, a2, a3.imp (fun b hb => g.block b (h.imlt b hb)) (fun _ hb => hb) (fun b hb => g.block b (h.imlt b (h.pnim b hb))) (fun b hb => g.block b (h.olt (h3 i f b a2 hb)))⟩
theorem TLeaf.grow (hm : RM C σ w Im D own) (g : Grows w w') {l : Lf} {v : Value} (h : TLeaf w Im C.Pn σ D l v) : TLeaf w' Im C.Pn σ D l v :=
  h.imp (fun b hb => g.block b (hm.imlt b hb)) (fun _ hb => hb) (fun b hb => g.block b (hm.imlt b (hm.pnim b hb))) fun id virt ls _ hs => ⟨ls, hs, fun _ => rfl, fun off m e k xs _ hl hp => ⟨m, e, xs, hl, hp, Nat.le_refl _, rfl⟩⟩
theorem RT.grow (hm : RM C σ w Im D own) (h : RT C nt σ w Im D a) (g : Grows w w') : RT C nt σ w' Im D a :=
  h.imp (fun b hb => g.block b (hm.imlt b hb)) (fun _ hb => hb) hm.pnim (fun _ _ h => h) fun t u id virt ls _ _ hs => ⟨ls, hs, fun _ => rfl, fun off m e k xs _ hl hp => ⟨m, e, xs, hl, hp, Nat.le_refl _, rfl⟩⟩
theorem Taken.grow (hm : RM C σ w Im D own) (g : Grows w w') : ∀ {ls : List Lf} {vs : List Value} {fs : List (List Nat)} {n : Nat}, Taken w Im C.Pn own n ls vs fs → Taken w' Im C.Pn own n ls vs fs
  | [], [], [], n, _ => trivial
  | l :: ls, v :: vs, f :: fs, n, h => ⟨⟨h.1.1.imp (fun b hb => g.block b (hm.imlt b hb)) (fun _ hb => hb) (fun b hb => g.block b (hm.imlt b (hm.pnim b hb))) (fun b hb => g.block b (hm.olt (h.1.2 b hb))), h.1.2⟩, Taken.grow hm g h.2⟩
  | [], [], _ :: _, _, h => h.elim
  | [], _ :: _, _, _, h => h.elim
  | _ :: _, [], _, _, h => h.elim
  | _ :: _, _ :: _, [], _, h => h.elim
/-- A block that nobody owns gets an owner. -/
theorem RM.tag (h : RM C σ w Im D own) {b0 : Nat} (t : Tag) (hn : own b0 = none) (hi : ¬ Im b0) (h0 : C.w0.heap.size ≤ b0) {arr : Array Value} {e : TypeId} (hh : w.heap[b0]? = some (.cells arr e (0, 0))) :
    RM C σ w Im D (fun b => if b = b0 then some t else own b) := by
  refine { h with ow := fun b u hb => ?_, slot := fun id virt ls hg => ?_ }
  · split at hb
    · rename_i e; subst e
      exact ⟨hi, .inr h0, arr, _, hh⟩
    · exact h.ow b u hb
  · obtain ⟨h1, h2, h3⟩ := h.slot id virt ls hg
    refine ⟨h1, fun hv => ?_, fun i f x hf hx => ?_⟩
    · rw [if_neg (fun e => by rw [← e, h2 hv] at hn; cases hn)]; exact h2 hv
    · rw [if_neg (fun e => by rw [← e, h3 i f x hf hx] at hn; cases hn)]; exact h3 i f x hf hx
theorem Taken.tag {Pn : Nat → Prop} {b0 : Nat} (t : Tag) (hn : own b0 = none) : ∀ {ls : List Lf} {vs : List Value} {fs : List (List Nat)} {n : Nat}, Taken w Im Pn own n ls vs fs → Taken w Im Pn (fun b => if b = b0 then some t else own b) n ls vs fs
  | [], [], [], n, _ => trivial
  | l :: ls, v :: vs, f :: fs, n, h => ⟨⟨h.1.1, fun x hx => by show (if x = b0 then some t else own x) = _; rw [if_neg (fun e => by rw [← e, h.1.2 x hx] at hn; cases hn)]; exact h.1.2 x hx⟩, Taken.tag t hn h.2⟩
  | [], [], _ :: _, _, h => h.elim
  | [], _ :: _, _, _, h => h.elim
  | _ :: _, [], _, _, h => h.elim
  | _ :: _, _ :: _, [], _, h => h.elim
theorem RM.own_new (h : RM C σ w Im D own) : own w.heap.size = none := by
  cases ho : own w.heap.size with
  | none => rfl
  | some t => exact absurd (h.olt ho) (Nat.lt_irrefl _)

/-! ### New objects -/
/-- Floating leaves become an object's. -/
def settle (n len d : Nat) (own : Nat → Option Tag) : Nat → Option Tag := fun x => match own x with
  | some (.fl m) => if n ≤ m ∧ m < n + len then some (.leaf d (m - n)) else some (.fl m)
  | t => t
theorem settle_some {n len d : Nat} {own : Nat → Option Tag} {x : Nat} {t : Tag} (h : settle n len d own x = some t) : ∃ u, own x = some u := by
  unfold settle at h
  cases ho : own x with
  | none => rw [ho] at h; cases h
  | some u => exact ⟨u, rfl⟩
theorem settle_other {n len d : Nat} {own : Nat → Option Tag} {x : Nat} (h : ∀ m, own x ≠ some (.fl m)) : settle n len d own x = own x := by
  unfold settle
  cases ho : own x with
  | none => rfl
  | some u => cases u <;> first | rfl | exact absurd ho (h _)
def St.fresh (σ : St) (d : Nat) : Prop := ∀ t u, σ.get (2 * t) = some u → d ∉ u.refs
theorem RM.newSlot (h : RM C σ w Im D own) {virt : Bool} {n d : Nat} {ls : List Lf} {vs : List Value} {fs : List (List Nat)} (ht : Taken w Im C.Pn own n ls vs fs) {b : Nat}
    (hb : virt = false → own b = some (.box d) ∧ ∃ e, w.heap[b]? = some (.cells vs.toArray e (0, 0))) :
    RM C (σ.set (2 * d + 1) (some (.slot virt ls))) w Im (fun j => if j = d then ⟨b, vs, fs⟩ else D j) (settle n ls.length d own) := by
  refine { h with asc := h.asc.set _ _, ow := fun x t hx => ?_, slot := fun id virt' ls' hg => ?_ }
  · obtain ⟨u, hu⟩ := settle_some hx
    exact h.ow x u hu
  · rw [St.get_set] at hg
    by_cases hj : id = d
    · subst hj
      simp only [if_true] at hg ⊢
      cases hg
      obtain ⟨h1, h2, h3⟩ := ht.get
      refine ⟨⟨fun hv => (hb hv).2, h1, h2, fun i l hl => ?_⟩, fun hv => ?_, fun i f x hf hx => ?_⟩
      · obtain ⟨v, f, a1, a2, a3, _⟩ := h3 i l hl
        exact ⟨v, f, a1, a2, a3⟩
      · rw [settle_other (fun m => by rw [(hb hv).1]; simp)]
        exact (hb hv).1
      · have hi : i < ls.length := by rw [← h2]; exact (List.getElem?_eq_some_iff.1 hf).1
        obtain ⟨v, f', a1, a2, a3, a4⟩ := h3 i ls[i] (List.getElem?_eq_getElem hi)
        have hff : f' = f := by rw [hf] at a2; cases a2; rfl
        subst hff
        unfold settle
        rw [a4 x hx]
        simp only []
        rw [if_pos ⟨by omega, by omega⟩]
        congr 2
        omega
    · rw [if_neg (by omega)] at hg
      simp only [hj, if_false]
      obtain ⟨h1, h2, h3⟩ := h.slot id virt' ls' hg
      exact ⟨h1, fun hv => by rw [settle_other (fun m => by rw [h2 hv]; simp)]; exact h2 hv, fun i f x hf hx => by rw [settle_other (fun m => by rw [h3 i f x hf hx]; simp)]; exact h3 i f x hf hx⟩
theorem TLeaf.newSlot {s : Option V} {sd : SD} {d : Nat} {l : Lf} {v : Value} (h : TLeaf w Im C.Pn σ D l v) (hf : d ∉ l.refs) :
    TLeaf w Im C.Pn (σ.set (2 * d + 1) s) (fun j => if j = d then sd else D j) l v := by
  refine h.imp (fun _ _ => rfl) (fun _ hb => hb) (fun _ _ => rfl) fun id virt ls hid hs => ?_
  have hne : id ≠ d := fun e => hf (e ▸ hid)
  rw [St.get_set_ne σ _ (by omega)] at hs
  simp only [hne, if_false]
  exact ⟨ls, hs, fun _ => trivial, fun off m e k xs _ hl hp => ⟨m, e, xs, hl, hp, Nat.le_refl _, trivial⟩⟩
theorem RT.newSlot (hm : RM C σ w Im D own) (h : RT C nt σ w Im D a) {d : Nat} (hf : σ.fresh d) {s : Option V} {sd : SD} : RT C nt (σ.set (2 * d + 1) s) w Im (fun j => if j = d then sd else D j) a := by
  refine h.imp (fun _ _ => rfl) (fun _ hb => hb) hm.pnim (fun t v hg => by rw [← hg]; exact (St.get_set_ne σ _ (by omega)).symm) fun t u id virt ls hu hid hs => ?_
  rw [St.get_set_ne σ _ (by omega)] at hu
  have hne : id ≠ d := fun e => hf t u hu (e ▸ hid)
  rw [St.get_set_ne σ _ (by omega)] at hs
  simp only [hne, if_false]
  exact ⟨ls, hs, fun _ => trivial, fun off m e k xs _ hl hp => ⟨m, e, xs, hl, hp, Nat.le_refl _, trivial⟩⟩
/-- A new list object, its temp looking at it. -/
theorem R.newList (hm : RM C σ w Im D own) (ht : RT C nt σ w Im D a) {d : Nat} (hd : d < nt ∧ C.args d = none) (hf : σ.fresh d) {e : TypeId} {k : Kd} {xs : List k.T} {v : Value} {f : List Nat} {n : Nat} (ho : Own w Im e k xs v f) (hfl : ∀ x ∈ f, own x = some (.fl n)) :
    R C nt ((σ.set (2 * d + 1) (some (.slot true [.lst .own e k xs]))).set (2 * d) (some (.one (.view d 0)))) (a.put (some d) v) w := by
  have htk : Taken w Im C.Pn own n [.lst .own e k xs] [v] [f] := ⟨⟨ho, hfl⟩, trivial⟩
  refine R.put (hm.newSlot (virt := true) (b := 0) (d := d) htk (fun h => by cases h)) (RT.newSlot hm ht hf) hd ?_
  intro virt ls m e' k' xs' hg hl _
  rw [St.get_set, if_pos rfl] at hg
  cases hg
  simp
/-- A new variable, its temp pointing to it. -/
theorem R.newBox (hm : RM C σ w Im D own) (ht : RT C nt σ w Im D a) {d : Nat} (hd : d < nt ∧ C.args d = none) (hf : σ.fresh d) {ls : List Lf} {vs : List Value} {fs : List (List Nat)} {n : Nat} (htk : Taken w Im C.Pn own n ls vs fs) (e : TypeId) :
    R C nt ((σ.set (2 * d + 1) (some (.slot false ls))).set (2 * d) (some (.one (.addr d 0)))) (a.put (some d) (.pointer (some ⟨w.heap.size, 0, none⟩))) (w.alloc (.cells vs.toArray e)) := by
  have hg := Grows.alloc w (.cells vs.toArray e)
  have hnew := heap_alloc_new w (.cells vs.toArray e)
  have hm1 := hm.grow hg
  have hm2 := hm1.tag (.box d) hm.own_new (fun hi => absurd (hm.imlt _ hi) (Nat.lt_irrefl _)) hm.size hnew
  refine R.put (hm2.newSlot (virt := false) (b := w.heap.size) (d := d) ((htk.grow hm hg).tag (.box d) hm.own_new) (fun _ => ⟨by simp, e, hnew⟩)) (RT.newSlot hm2 (RT.grow hm ht hg) hf) hd ?_
  intro ls' hg'
  simp

/-! ### Plain operations -/
theorem semV_run {α : Type} : ∀ (s : Sem α) {v : α}, semV P s = some v → ∀ w, s.run P w = .ok v w := by
  intro s
  induction s with
  | pure a => intro v h w; cases h; rfl
  | program k ih => intro v h w; exact ih P h w
  | _ => intro v h w; cases h
/-- What an operation owes. -/
def OpOk (P : Program) (C : Ct) (nt : Nat) (o : Oper) (a : Act) (w : World) (σ' : St) : Prop :=
  ∀ (K : Act → World → Prop) (Q : Exit → Act → World → Prop), (∀ a' w', R C nt σ' a' w' → K a' w') → o.wp P a w K Q
theorem OpOk.value {o : Oper} {cv : Value} (h : (execOp a.eval o).run P w = .ok (.value cv) w') (hr : R C nt σ' (a.put o.dst cv) w') : OpOk P C nt o a w σ' := by
  intro K Q hK
  unfold Oper.wp
  rw [h]
  exact hK _ _ hr
theorem OpOk.skip {o : Oper} (h : (execOp a.eval o).run P w = .ok .skip w') (hr : R C nt σ' (a.put o.dst undef) w') : OpOk P C nt o a w σ' := by
  intro K Q hK
  unfold Oper.wp
  rw [h]
  exact hK _ _ hr
def dOk (C : Ct) (nt : Nat) (d : Option Tmp) : Prop := ∀ t, d = some t → t < nt ∧ C.args t = none
theorem putM_ok (hm : RM C σ w Im D own) (ht : RT C nt σ w Im D a) {d : Option Tmp} (hd : dOk C nt d) {v : V} {cv : Value} (h : Run orc (putM d v) σ lg) (hv : VOk w Im C.Pn σ D v cv) : R C nt (apps lg σ) (a.put d cv) w := by
  cases d with
  | none =>
    cases h with
    | ret => exact ⟨Im, D, own, hm, ht⟩
  | some d =>
    cases h with
    | wr h => cases h with
      | ret => exact R.put hm ht (hd d rfl) hv
theorem scalarM_ok (hm : RM C σ w Im D own) (ht : RT C nt σ w Im D a) {d : Option Tmp} (hd : dOk C nt d) {s : Sem Value} (h : Run orc (scalarM d (semV P s)) σ lg) :
    ∃ cv, s.run P w = .ok cv w ∧ R C nt (apps lg σ) (a.put d cv) w := by
  cases hs : semV P s with
  | none => rw [hs] at h; cases h
  | some v =>
    rw [hs] at h
    refine ⟨v, semV_run s hs w, ?_⟩
    have : v.oneCell' = true ∧ Run orc (putM d (.one (.sc v))) σ lg := by
      cases v <;> first | exact ⟨rfl, h⟩ | (cases h; done)
    exact putM_ok hm ht hd this.2 ⟨rfl, this.1⟩
theorem scM_run (ht : RT C nt σ w Im D a) {x : Operand} {f : Value → M} (h : Run orc (scM x f) σ lg) :
    ∃ v lg', Run orc (f v) σ lg' ∧ apps lg σ = apps lg' σ ∧ a.eval x = v ∧ v.oneCell' = true := by
  obtain ⟨v, lg', h1, h2, h3⟩ := valM_run ht h
  cases v with
  | one l =>
    cases l with
    | sc u => exact ⟨u, lg', h1, h2, h3.1, h3.2⟩
    | _ => cases h1
  | _ => cases h1
theorem exec_v {s : Sem Value} {cv : Value} (h : s.run P w = .ok cv w') : (do pure (Next.value (← s)) : Sem Next).run P w = .ok (.value cv) w' := by
  rw [Sem.run_bind, h]; rfl

theorem ok_move {o : Oper} {x : Operand} (ho : o.op = .move x) {cx : Cx} (hd : dOk C nt o.dst) (hm : RM C σ w Im D own) (ht : RT C nt σ w Im D a) (h : Run orc (opM cx o) σ lg) : OpOk P C nt o a w (apps lg σ) := by
  unfold opM at h
  rw [ho] at h
  obtain ⟨v, lg', h1, h2, h3⟩ := valM_run ht h
  rw [h2]
  exact .value (cv := a.eval x) (by simp only [execOp, ho]; rfl) (putM_ok hm ht hd h1 h3)
theorem ok_unOp {o : Oper} {u : UnOp} {t : TypeId} {x : Operand} (ho : o.op = .unOp u t x) {cx : Cx} (hP : cx.P = P) (hd : dOk C nt o.dst) (hm : RM C σ w Im D own) (ht : RT C nt σ w Im D a) (h : Run orc (opM cx o) σ lg) : OpOk P C nt o a w (apps lg σ) := by
  unfold opM at h
  rw [ho] at h
  obtain ⟨v, lg', h1, h2, h3, _⟩ := scM_run ht h
  subst hP
  obtain ⟨cv, h4, h5⟩ := scalarM_ok hm ht hd h1
  rw [h2]
  exact .value (by simp only [execOp, ho, h3]; exact exec_v h4) h5
theorem ok_convert {o : Oper} {s t : TypeId} {x : Operand} (ho : o.op = .convert s t x) {cx : Cx} (hP : cx.P = P) (hd : dOk C nt o.dst) (hm : RM C σ w Im D own) (ht : RT C nt σ w Im D a) (h : Run orc (opM cx o) σ lg) : OpOk P C nt o a w (apps lg σ) := by
  unfold opM at h
  rw [ho] at h
  obtain ⟨v, lg', h1, h2, h3, _⟩ := scM_run ht h
  subst hP
  obtain ⟨cv, h4, h5⟩ := scalarM_ok hm ht hd h1
  rw [h2]
  exact .value (by simp only [execOp, ho, h3]; exact exec_v h4) h5
theorem ok_makeInterface {o : Oper} {t : TypeId} {x : Operand} (ho : o.op = .makeInterface t x) {cx : Cx} (hP : cx.P = P) (hd : dOk C nt o.dst) (hm : RM C σ w Im D own) (ht : RT C nt σ w Im D a) (h : Run orc (opM cx o) σ lg) : OpOk P C nt o a w (apps lg σ) := by
  unfold opM at h
  rw [ho] at h
  obtain ⟨v, lg', h1, h2, h3, _⟩ := scM_run ht h
  subst hP
  obtain ⟨cv, h4, h5⟩ := scalarM_ok hm ht hd h1
  rw [h2]
  exact .value (by simp only [execOp, ho, h3]; exact exec_v h4) h5
theorem bv_ok {v : V} {b : Bool} (h : bv v = some b) {cv : Value} (hv : VOk w Im C.Pn σ D v cv) : cv = .bool b := by
  unfold bv at h
  split at h
  · cases h; exact hv.1
  · cases h
theorem ok_pick {o : Oper} {c x y : Operand} (ho : o.op = .pick c x y) {cx : Cx} (hd : dOk C nt o.dst) (hm : RM C σ w Im D own) (ht : RT C nt σ w Im D a) (h : Run orc (opM cx o) σ lg) : OpOk P C nt o a w (apps lg σ) := by
  unfold opM at h
  rw [ho] at h
  obtain ⟨vc, l1, h1, e1, k1⟩ := valM_run ht h
  obtain ⟨vx, l2, h2, e2, k2⟩ := valM_run ht h1
  obtain ⟨vy, l3, h3, e3, k3⟩ := valM_run ht h2
  rw [e1, e2, e3]
  cases hc : bv vc with
  | none => rw [hc] at h3; cases h3
  | some b =>
    rw [hc] at h3
    have hcb := bv_ok hc k1
    have hrun : (execOp a.eval o).run P w = .ok (.value (if b then a.eval x else a.eval y)) w := by
      simp only [execOp, ho, hcb]
      simp [asBool]
    refine .value hrun ?_
    simp only [] at h3
    have split : ∀ {l}, Run orc (M.ite b fun | true => putM o.dst vx | false => putM o.dst vy) σ l → R C nt (apps l σ) (a.put o.dst (if b then a.eval x else a.eval y)) w := by
      intro l hl
      cases hl with
      | ite hl => cases b
                  · exact putM_ok hm ht hd hl k3
                  · exact putM_ok hm ht hd hl k2
    cases hx : bv vx with
    | none => rw [hx] at h3; exact split h3
    | some p =>
      cases hy : bv vy with
      | none => rw [hx, hy] at h3; exact split h3
      | some q =>
        rw [hx, hy] at h3
        refine putM_ok hm ht hd h3 ?_
        rw [bv_ok hx k2, bv_ok hy k3]
        cases b <;> exact ⟨rfl, rfl⟩
end Go.Vi
/- Addresses and loads. -/
namespace Go.Vi
set_option linter.unusedVariables false
set_option linter.unusedSimpArgs false
variable {P : Program} {orc : Orc} {C : Ct} {nt : Nat} {σ σ' : St} {w w' : World} {Im Im' : Nat → Prop} {D D' : Nat → SD} {own own' : Nat → Option Tag} {a : Act} {lg : List Ac}

/-! ### Types -/
theorem cellsOf_info {t : TypeId} (h : P.cellsOf t ≠ 0) : ∃ i, P.info? t = some i ∧ i.size = P.cellsOf t := by
  unfold Program.cellsOf at h ⊢
  cases hi : P.info? t with
  | none => rw [hi] at h; simp at h
  | some i => exact ⟨i, rfl, by simp⟩
theorem run_sizeOf' {t : TypeId} (h : P.cellsOf t ≠ 0) : (sizeOf t).run P w = .ok (P.cellsOf t) w := by
  obtain ⟨i, hi, hs⟩ := cellsOf_info h
  simp [sizeOf, typeInfo, hi, hs]
theorem fieldsT_get {t : TypeId} {i : Nat} {f : Field} (h : (fieldsT P t)[i]? = some f) : ∃ fs, P.underlying t = some (.struct fs) ∧ fs[i]? = some f := by
  unfold fieldsT at h
  split at h
  · rename_i fs hu; exact ⟨fs, hu, by simpa using h⟩
  · simp at h

/-! ### Pointers -/
inductive AddrAt (w : World) (Im : Nat → Prop) (σ : St) (D : Nat → SD) : Lf → Addr → Prop
  | addr {id off ls} : σ.get (2 * id + 1) = some (.slot false ls) → AddrAt w Im σ D (.addr id off) ⟨(D id).b, off, none⟩
  | eaddr {id off i o virt ls m e k xs x b p n c} : σ.get (2 * id + 1) = some (.slot virt ls) → ls[off]? = some (.lst m e k xs) → xs[i]? = some x → (D id).vs[off]? = some (.slice (some ⟨b, p, none⟩) n c) →
      AddrAt w Im σ D (.eaddr id off i o) ⟨b, p + i * k.w + o, none⟩
  | faddr {k x o b p arr e fr f} : w.heap[b]? = some (.cells arr e fr) → Im b → RepK w Im k x ((arr.toList.drop p).take k.w) f → (∀ x ∈ f, Im x) → AddrAt w Im σ D (.faddr k x o) ⟨b, p + o, none⟩
theorem atM_run {v : V} {f : Lf → M} (h : Run orc (atM v f) σ lg) {cv : Value} (hv : VOk w Im C.Pn σ D v cv) :
    ∃ l A lg', Run orc (f l) σ lg' ∧ apps lg σ = apps lg' σ ∧ cv = .pointer (some A) ∧ AddrAt w Im σ D l A := by
  unfold atM at h
  split at h
  · rename_i id off
    cases h with
    | rdS h =>
      generalize hs : σ.get (2 * id + 1) = o at h
      cases o with
      | none => cases h
      | some u =>
        cases u with
        | slot virt ls =>
          simp only [shapeV] at h
          cases virt with
          | true => cases h
          | false => exact ⟨_, _, _, h, rfl, hv ls hs, .addr hs⟩
        | _ => cases h
  · rename_i id off i o
    obtain ⟨virt, ls, m, e, k, xs, lg', hg, hl, hp, hr, ha⟩ := listM_run h
    generalize hx : xs[i]? = q at hr
    cases hr with
    | opt hr =>
      rename_i x
      obtain ⟨b, p, n, c, h1, h2⟩ := hv virt ls m e k xs hg hl hp (List.getElem?_eq_some_iff.1 hx).1
      exact ⟨_, _, lg', hr, ha, h2, .eaddr hg hl hx h1⟩
  · obtain ⟨b, p, arr, e, fr, f', h1, h2, h3, h4, h5⟩ := hv
    exact ⟨_, _, lg, h, rfl, h1, .faddr h2 h3 h4 h5⟩
  · cases h
def Lf.shift (n : Nat) : Lf → Lf
  | .addr id off => .addr id (off + n)
  | .eaddr id off i o => .eaddr id off i (o + n)
  | .faddr k x o => .faddr k x (o + n)
  | l => l
theorem AddrAt.spot {l : Lf} {A : Addr} (h : AddrAt w Im σ D l A) : A.spot = none := by cases h <;> rfl
theorem AddrAt.tleaf {l : Lf} {A : Addr} (h : AddrAt w Im σ D l A) (n : Nat) : TLeaf w Im C.Pn σ D (l.shift n) (.pointer (some ⟨A.block, A.off + n, none⟩)) := by
  cases h with
  | addr hs => intro ls hs'; rfl
  | eaddr hg hl hx hd =>
    intro virt' ls' m' e' k' xs' hg' hl' _ hi'
    rw [hg] at hg'
    cases hg'
    rw [hl] at hl'
    cases hl'
    exact ⟨_, _, _, _, hd, by simp [Nat.add_assoc]⟩
  | faddr h1 h2 h3 h4 => exact ⟨_, _, _, _, _, _, by simp [Nat.add_assoc], h1, h2, h3, h4⟩
theorem AddrAt.tleaf0 {l : Lf} {A : Addr} (h : AddrAt w Im σ D l A) : TLeaf w Im C.Pn σ D l (.pointer (some A)) := by
  have := h.tleaf (C := C) 0
  have hs := h.spot
  have e1 : l.shift 0 = l := by cases l <;> rfl
  rw [e1] at this
  obtain ⟨b, o, s⟩ := A
  simp only at hs
  subst hs
  exact this
theorem ok_nilCheck {o : Oper} {x : Operand} (ho : o.op = .nilCheck x) {cx : Cx} (hd : dOk C nt o.dst) (hm : RM C σ w Im D own) (ht : RT C nt σ w Im D a) (h : Run orc (opM cx o) σ lg) : OpOk P C nt o a w (apps lg σ) := by
  unfold opM at h
  rw [ho] at h
  obtain ⟨v, lg1, h1, e1, k1⟩ := valM_run ht h
  obtain ⟨l, A, lg2, h2, e2, k2, k3⟩ := atM_run h1 k1
  rw [e1, e2]
  exact .value (cv := .pointer (some A)) (by simp only [execOp, ho, k2]; rfl) (putM_ok hm ht hd h2 k3.tleaf0)
theorem ok_fieldAddr {o : Oper} {t : TypeId} {x : Operand} {i : Nat} (ho : o.op = .fieldAddr t x i) {cx : Cx} (hP : cx.P = P) (hd : dOk C nt o.dst) (hm : RM C σ w Im D own) (ht : RT C nt σ w Im D a) (h : Run orc (opM cx o) σ lg) : OpOk P C nt o a w (apps lg σ) := by
  unfold opM at h
  rw [ho] at h
  obtain ⟨v, lg1, h1, e1, k1⟩ := valM_run ht h
  subst hP
  unfold fieldAddrM at h1
  generalize hf : (fieldsT cx.P t)[i]? = q at h1
  cases q with
  | none => cases h1
  | some f =>
    simp only [] at h1
    split at h1
    · cases h1
    · rename_i hz
      obtain ⟨l, A, lg2, h2, e2, k2, k3⟩ := atM_run h1 k1
      obtain ⟨fs, hu, hfi⟩ := fieldsT_get hf
      have hA := k3.spot
      have hrun : (Instr.fieldAt t (a.eval x) i).run cx.P w = .ok (.pointer (some ⟨A.block, A.off + f.offset, none⟩)) w := by
        obtain ⟨b, of, s⟩ := A
        simp only at hA
        subst hA
        simp [Instr.fieldAt, run_underlying hu, hfi, k2, Instr.sureAddr, fieldPlace, run_sizeOf' hz, hz, Addr.add_lit]
      have hsh := k3.tleaf (C := C) f.offset
      rw [e1, e2]
      refine .value (cv := .pointer (some ⟨A.block, A.off + f.offset, none⟩)) (by simp only [execOp, ho]; exact exec_v hrun) ?_
      cases k3 with
      | addr hs => exact putM_ok hm ht hd h2 hsh
      | eaddr h1' h2' h3' h4' => exact putM_ok hm ht hd h2 hsh
      | faddr h1' h2' h3' h4' => exact putM_ok hm ht hd h2 hsh

/-! ### What lies at an address -/
theorem cell_at {w : World} {b : Nat} {arr : Array Value} {e : TypeId} {fr : Nat × Nat} (h : w.heap[b]? = some (.cells arr e fr)) (o : Nat) : w.cell? ⟨b, o, none⟩ = arr.toList[o]? := by
  simp [World.cell?, h]
/-- Cells at an address. -/
def CellsAt (w : World) (A : Addr) (cs : List Value) : Prop := A.spot = none ∧ ∀ (j : Nat) v, cs[j]? = some v → w.cell? ⟨A.block, A.off + j, none⟩ = some v
theorem CellsAt.add {A : Addr} {cs : List Value} (h : CellsAt w A cs) (j : Nat) (v : Value) (hj : cs[j]? = some v) : w.cell? (A.add j) = some v := by
  obtain ⟨b, o, s⟩ := A
  have hs := h.1
  simp only at hs
  subst hs
  rw [Addr.add_lit]
  exact h.2 j v hj
theorem CellsAt.sub {A : Addr} {cs : List Value} (h : CellsAt w A cs) (n m : Nat) : CellsAt w ⟨A.block, A.off + n, none⟩ ((cs.drop n).take m) := by
  refine ⟨rfl, fun j v hj => ?_⟩
  rw [List.getElem?_take] at hj
  split at hj
  · rw [List.getElem?_drop] at hj
    have := h.2 _ v hj
    rw [← this]
    simp [Nat.add_assoc]
  · cases hj
/-- The value that a type makes of cells. -/
def packC (P : Program) (t : TypeId) (cs : List Value) : Value := match isAggT P t, cs with
  | false, [v] => v
  | _, cs => .agg cs.toArray
theorem run_loadVar {t : TypeId} (ht : okT P t = true) {A : Addr} {cs : List Value} (hc : CellsAt w A cs) (hl : cs.length = P.cellsOf t) (h0 : isAggT P t = false → cs.length = 1) (hz : P.cellsOf t ≠ 0) :
    (loadVar t A).run P w = .ok (packC P t cs) w := by
  unfold okT at ht
  cases hu : P.underlying t with
  | none => rw [hu] at ht; cases ht
  | some d =>
    rw [hu] at ht
    have hload := run_loadCells_list (P := P) w A cs (fun j v hj => hc.add j v hj)
    rw [hl] at hload
    by_cases hs : isAggT P t = true
    · have hd : ∃ fs, d = .struct fs := by
        unfold isAggT at hs
        rw [hu] at hs
        cases d <;> first | (simp at hs; done) | exact ⟨_, rfl⟩
      obtain ⟨fs, rfl⟩ := hd
      simp only [loadVar, isAgg, Sem.run_bind, run_underlying hu, Result.andThen_ok, Sem.run_pure, if_true, run_sizeOf' hz, hload]
      simp [packC, hs]
    · have hs : isAggT P t = false := by simpa using hs
      have hd : (∀ fs, d ≠ .struct fs) ∧ (∀ n e, d ≠ .array n e) := by
        unfold isAggT at hs
        rw [hu] at hs
        constructor
        · intro fs e; subst e; simp at hs
        · intro n e he; subst he; simp at ht
      have hag : (isAgg t).run P w = .ok false w := by
        unfold isAgg
        rw [Sem.run_bind, run_underlying hu]
        cases d <;> first | rfl | exact absurd rfl (hd.1 _) | exact absurd rfl (hd.2 _ _)
      obtain ⟨v, rfl⟩ : ∃ v, cs = [v] := by
        have := h0 hs
        match cs, this with
        | [v], _ => exact ⟨v, rfl⟩
      have hv : w.cell? A = some v := by
        have := hc.add 0 v rfl
        simpa [Addr.add] using this
      simp only [loadVar, Sem.run_bind, hag, Result.andThen_ok, Bool.false_eq_true, if_false, run_load, hv]
      simp [packC, hs]
theorem packV_ok {t : TypeId} {ls : List Lf} {cs : List Value} (h : All2 (TLeaf w Im C.Pn σ D) ls cs) : VOk w Im C.Pn σ D (packV P t ls) (packC P t cs) := by
  unfold packV packC
  cases hs : isAggT P t with
  | true => exact ⟨cs, rfl, h⟩
  | false =>
    match ls, cs, h with
    | [l], [c], h => exact h.1
    | [], [], h => exact ⟨[], rfl, trivial⟩
    | _ :: _ :: _, _ :: _ :: _, h => exact ⟨_, rfl, h⟩
theorem packV_one {t : TypeId} {ls : List Lf} {v : V} (h : Run orc (putM (some 0) v) σ lg) : True := trivial
/-- A box's cells are where its block lies. -/
theorem RM.boxCells (hm : RM C σ w Im D own) {id : Nat} {ls : List Lf} (hg : σ.get (2 * id + 1) = some (.slot false ls)) : CellsAt w ⟨(D id).b, 0, none⟩ (D id).vs := by
  obtain ⟨h1, _, _⟩ := hm.slot id false ls hg
  obtain ⟨e, he⟩ := h1.box rfl
  refine ⟨rfl, fun j v hj => ?_⟩
  rw [cell_at he]
  simpa using hj
/-- What a loaded cell of a box is worth. -/
theorem loadLs_ok (hm : RM C σ w Im D own) {id : Nat} {virt : Bool} {cs : List Lf} (hg : σ.get (2 * id + 1) = some (.slot virt cs)) : ∀ (ls : List Lf) (off : Nat), (∀ (j : Nat) l, ls[j]? = some l → cs[off + j]? = some l) → hasUndef ls = false →
    All2 (TLeaf w Im C.Pn σ D) (loadLs id off ls) (((D id).vs.drop off).take ls.length)
  | [], off, _, _ => by simp [loadLs, All2]
  | l :: r, off, h, hu => by
    have hl : cs[off]? = some l := by simpa using h 0 l rfl
    obtain ⟨v, f, h1, h2, h3, h4⟩ := hm.leaf hg hl
    have hlt : off < (D id).vs.length := (List.getElem?_eq_some_iff.1 h1).1
    have hd : (D id).vs.drop off = v :: (D id).vs.drop (off + 1) := by
      rw [List.drop_eq_getElem_cons hlt]
      rw [List.getElem?_eq_getElem hlt] at h1
      cases h1
      rfl
    have hu' : hasUndef r = false := by cases l <;> first | (simp [hasUndef] at hu; done) | simpa [hasUndef] using hu
    have ih := loadLs_ok hm hg r (off + 1) (fun j m hj => by have := h (j + 1) m (by simpa using hj); rwa [show off + (j + 1) = off + 1 + j from by omega] at this) hu'
    rw [hd]
    refine ⟨?_, ih⟩
    cases l with
    | sc u => exact ⟨h3.1, h3.2.1⟩
    | lst m e k xs =>
      cases m with
      | own =>
        intro virt' ls' m' e' k' xs' hg' hl' _
        exact h1
      | frz => exact h3.2
      | pin => exact h3.2
    | undef => simp [hasUndef] at hu
    | _ => exact h3.elim
theorem viewLs_ok (hm : RM C σ w Im D own) {id : Nat} {virt : Bool} {cs : List Lf} (hg : σ.get (2 * id + 1) = some (.slot virt cs)) : ∀ (n off : Nat), off + n ≤ cs.length →
    All2 (TLeaf w Im C.Pn σ D) (viewLs id off n) (((D id).vs.drop off).take n)
  | 0, off, _ => by simp [viewLs, All2]
  | n + 1, off, h => by
    obtain ⟨v, f, h1, h2, h3, h4⟩ := hm.leaf hg (List.getElem?_eq_getElem (show off < cs.length by omega))
    have hlt : off < (D id).vs.length := (List.getElem?_eq_some_iff.1 h1).1
    have hd : (D id).vs.drop off = v :: (D id).vs.drop (off + 1) := by
      rw [List.drop_eq_getElem_cons hlt]
      rw [List.getElem?_eq_getElem hlt] at h1
      cases h1
      rfl
    rw [hd]
    exact ⟨fun virt' ls' m' e' k' xs' hg' hl' _ => h1, viewLs_ok hm hg n (off + 1) (by omega)⟩
/-- What an element's cells are worth, where it may be looked at. -/
theorem toL_frz {Pn : Nat → Prop} : ∀ {k : Kd} {x : k.T} {vs : List Value} {f : List Nat}, RepK w Im k x vs f → (∀ b ∈ f, Im b) → All2 (fun l v => l = .undef ∨ TLeaf w Im Pn σ D l v) (toL .frz k x) vs
  | .int _, _, _, _, h, _ => by simp only [RepK] at h; rw [h.1]; exact ⟨.inr ⟨rfl, rfl⟩, trivial⟩
  | .bool, _, _, _, h, _ => by simp only [RepK] at h; rw [h.1]; exact ⟨.inr ⟨rfl, rfl⟩, trivial⟩
  | .val, v, _, _, h, _ => by simp only [RepK] at h; rw [h.1]; exact ⟨.inr ⟨rfl, h.2.1⟩, trivial⟩
  | .pair a b, x, vs, f, h, hf => by
    simp only [RepK] at h
    obtain ⟨f1, f2, h1, h2, rfl⟩ := h
    have := All2.append (toL_frz (Pn := Pn) h1 (fun b hb => hf b (List.mem_append_left _ hb))) (toL_frz (Pn := Pn) h2 (fun b hb => hf b (List.mem_append_right _ hb)))
    rwa [List.take_append_drop] at this
  | .fz e k, xs, vs, f, h, _ => by
    simp only [RepK] at h
    obtain ⟨v, rfl, rfl, h3⟩ := h
    exact ⟨.inr h3, trivial⟩
  | .ow e k, o, vs, f, h, hf => by
    simp only [RepK] at h
    obtain ⟨v, rfl, h2, h3⟩ := h
    cases o with
    | none => exact ⟨.inl rfl, trivial⟩
    | some xs => exact ⟨.inr (Own.frz h3 (fun _ h => h) hf), trivial⟩
theorem toL_noOw {Pn : Nat → Prop} : ∀ {k : Kd} {x : k.T} {vs : List Value} {f : List Nat}, k.noOw = true → RepK w Im k x vs f → f = [] ∧ All2 (TLeaf w Im Pn σ D) (toL .frz k x) vs
  | .int _, _, _, _, _, h => by simp only [RepK] at h; rw [h.1]; exact ⟨h.2, ⟨rfl, rfl⟩, trivial⟩
  | .bool, _, _, _, _, h => by simp only [RepK] at h; rw [h.1]; exact ⟨h.2, ⟨rfl, rfl⟩, trivial⟩
  | .val, v, _, _, _, h => by simp only [RepK] at h; rw [h.1]; exact ⟨h.2.2, ⟨rfl, h.2.1⟩, trivial⟩
  | .pair a b, x, vs, f, hk, h => by
    simp only [Kd.noOw, Bool.and_eq_true] at hk
    simp only [RepK] at h
    obtain ⟨f1, f2, h1, h2, rfl⟩ := h
    obtain ⟨a1, a2⟩ := toL_noOw (Pn := Pn) hk.1 h1
    obtain ⟨b1, b2⟩ := toL_noOw (Pn := Pn) hk.2 h2
    refine ⟨by rw [a1, b1]; rfl, ?_⟩
    have := All2.append a2 b2
    rwa [List.take_append_drop] at this
  | .fz e k, xs, vs, f, _, h => by
    simp only [RepK] at h
    obtain ⟨v, rfl, rfl, h3⟩ := h
    exact ⟨rfl, h3, trivial⟩
  | .ow e k, o, vs, f, hk, h => by simp [Kd.noOw] at hk
/-- The cells of an element of a list that is owned. -/
theorem Own.elem {e : TypeId} {k : Kd} {xs : List k.T} {v : Value} {f : List Nat} (h : Own w Im e k xs v f) {b p n c : Nat} (hv : v = .slice (some ⟨b, p, none⟩) n c) {i : Nat} {x : k.T} (hx : xs[i]? = some x) :
    ∃ cs g, CellsAt w ⟨b, p + i * k.w, none⟩ cs ∧ cs.length = k.w ∧ RepK w Im k x cs g := by
  obtain ⟨cs, fss, ho, hr, hf, hn⟩ := h
  obtain ⟨g, hg, hrep⟩ := hr.2.2 i x hx
  rcases ho.2 with ⟨hnil, _⟩ | ⟨b', cap, cur, hsl, _, hh, hc, hm, hs, htk⟩
  · rw [hv] at hnil; cases hnil
  · rw [hv] at hsl
    cases hsl
    refine ⟨_, g, ⟨rfl, fun j u hj => ?_⟩, hrep.length, hrep⟩
    rw [List.getElem?_take] at hj
    split at hj
    · rw [List.getElem?_drop, ← htk, List.getElem?_take] at hj
      split at hj
      · rw [cell_at hh]
        simpa using hj
      · cases hj
    · cases hj
theorem Frz.elem {k : Kd} {xs : List k.T} {v : Value} (h : Frz w Im k xs v) {b p n c : Nat} (hv : v = .slice (some ⟨b, p, none⟩) n c) {i : Nat} {x : k.T} (hx : xs[i]? = some x) :
    ∃ cs g, CellsAt w ⟨b, p + i * k.w, none⟩ cs ∧ cs.length = k.w ∧ RepK w Im k x cs g ∧ (∀ y ∈ g, Im y) ∧ Im b ∧ ∃ arr e fr, w.heap[b]? = some (.cells arr e fr) ∧ cs = (arr.toList.drop (p + i * k.w)).take k.w := by
  rcases h with ⟨rfl, _⟩ | ⟨b', o, cap, arr, e, fr, fss, hsl, hc, hh, hib, hr, hf⟩
  · simp at hx
  · rw [hv] at hsl
    cases hsl
    obtain ⟨g, hg, hrep⟩ := hr.2.2 i x hx
    have hlen := hrep.length
    have hi : i < xs.length := (List.getElem?_eq_some_iff.1 hx).1
    have hcs : (((arr.toList.drop p).take (xs.length * k.w)).drop (i * k.w)).take k.w = (arr.toList.drop (p + i * k.w)).take k.w := by
      rw [List.drop_take, List.take_take, List.drop_drop]
      congr 1
      have : i * k.w + k.w ≤ xs.length * k.w := by
        have := Nat.mul_le_mul_right k.w (show i + 1 ≤ xs.length from hi)
        rwa [Nat.add_mul, Nat.one_mul] at this
      omega
    rw [hcs] at hrep hlen
    refine ⟨_, g, ⟨rfl, fun j u hj => ?_⟩, hlen, hrep, hf g (List.mem_of_getElem? hg), hib, arr, e, fr, hh, rfl⟩
    rw [List.getElem?_take] at hj
    split at hj
    · rw [List.getElem?_drop] at hj
      rw [cell_at hh]
      simpa using hj
    · cases hj
theorem RM.leafElem (hm : RM C σ w Im D own) {id off : Nat} {virt : Bool} {ls : List Lf} {m : Md} {e : TypeId} {k : Kd} {xs : List k.T} (hg : σ.get (2 * id + 1) = some (.slot virt ls)) (hl : ls[off]? = some (.lst m e k xs))
    {b p n c i : Nat} (hd : (D id).vs[off]? = some (.slice (some ⟨b, p, none⟩) n c)) {x : k.T} (hx : xs[i]? = some x) : ∃ cs g, CellsAt w ⟨b, p + i * k.w, none⟩ cs ∧ cs.length = k.w ∧ RepK w Im k x cs g := by
  obtain ⟨v, f, h1, h2, h3, h4⟩ := hm.leaf hg hl
  have hv : v = .slice (some ⟨b, p, none⟩) n c := by rw [hd] at h1; cases h1; rfl
  cases m with
  | own => exact Own.elem h3 hv hx
  | frz =>
    obtain ⟨cs, g, a1, a2, a3, _⟩ := Frz.elem h3.2 hv hx
    exact ⟨cs, g, a1, a2, a3⟩
  | pin =>
    obtain ⟨cs, g, a1, a2, a3, _⟩ := Frz.elem h3.2 hv hx
    exact ⟨cs, g, a1, a2, RepK.imp (fun _ _ => rfl) hm.pnim (fun _ _ => rfl) a3⟩
theorem ldT_ok {t : TypeId} (h : ldT P t = true) : okT P t = true ∧ P.cellsOf t ≠ 0 ∧ (isAggT P t = false → P.cellsOf t = 1) := by
  simp only [ldT, Bool.and_eq_true, Bool.or_eq_true, bne_iff_ne, beq_iff_eq] at h
  refine ⟨h.1.1, h.1.2, fun hs => ?_⟩
  rcases h.2 with h2 | h2
  · rw [hs] at h2; cases h2
  · exact h2
/-- A load of cells that lie there. -/
theorem load_fin {o : Oper} {t : TypeId} {x : Operand} (ho : o.op = .load t x) {cx : Cx} (hd : dOk C nt o.dst) (hm : RM C σ w Im D own) (ht : RT C nt σ w Im D a) (hld : ldT cx.P t = true)
    {A : Addr} {cs : List Value} {ls : List Lf} (hx : a.eval x = .pointer (some A)) (hc : CellsAt w A cs) (hl : ls.length = cx.P.cellsOf t) (hall : All2 (TLeaf w Im C.Pn σ D) ls cs)
    (hr : Run orc (putM o.dst (packV cx.P t ls)) σ lg) : OpOk cx.P C nt o a w (apps lg σ) := by
  obtain ⟨h1, h2, h3⟩ := ldT_ok hld
  have hcl : cs.length = cx.P.cellsOf t := by rw [← hall.length, hl]
  have hrun := run_loadVar (w := w) h1 hc hcl (fun hs => by rw [hcl]; exact h3 hs) h2
  exact .value (cv := packC cx.P t cs) (by simp only [execOp, ho, hx, Instr.loadAt, Instr.sureAddr]; exact exec_v (by simp [hrun])) (putM_ok hm ht hd hr (packV_ok hall))
theorem CellsAt.full {A : Addr} {cs : List Value} (h : CellsAt w A cs) : A = ⟨A.block, A.off, none⟩ := by
  obtain ⟨b, o, s⟩ := A
  have := h.1
  simp only at this
  subst this
  rfl
theorem all2_undef {ls : List Lf} {cs : List Value} (h : All2 (fun l v => l = .undef ∨ TLeaf w Im C.Pn σ D l v) ls cs) (hu : hasUndef ls = false) : All2 (TLeaf w Im C.Pn σ D) ls cs := by
  refine All2.imp_mem (fun l hl v hv => hv.resolve_left fun e => ?_) h
  subst e
  have : ∀ ls : List Lf, Lf.undef ∈ ls → hasUndef ls = true := by
    intro ls
    induction ls with
    | nil => intro h; cases h
    | cons l r ih =>
      intro h
      cases l <;> first | rfl | (simp only [hasUndef]; exact ih (by simpa using h))
  rw [this ls hl] at hu
  cases hu
theorem ok_load' {o : Oper} {t : TypeId} {x : Operand} (ho : o.op = .load t x) {cx : Cx} (hP : cx.P = P) (hd : dOk C nt o.dst) (hm : RM C σ w Im D own) (ht : RT C nt σ w Im D a) {v : V} (hv : VOk w Im C.Pn σ D v (a.eval x))
    (h : Run orc (loadM cx o.dst t v) σ lg) : OpOk P C nt o a w (apps lg σ) := by
  subst hP
  unfold loadM at h
  dsimp only at h
  split at h
  · cases h
  · rename_i hok
    have hok : ldT cx.P t = true := by simpa using hok
    split at h
    · -- a variable
      rename_i id off
      cases h with
      | rdS h =>
        generalize hs : σ.get (2 * id + 1) = q at h
        cases q with
        | none => cases h
        | some u =>
          cases u with
          | slot virt cs =>
            cases virt with
            | true => cases h
            | false =>
              have hx : a.eval x = .pointer (some ⟨(D id).b, off, none⟩) := hv cs hs
              have hcells : CellsAt w ⟨(D id).b, off, none⟩ (((D id).vs.drop off).take (cx.P.cellsOf t)) := by
                have := (hm.boxCells hs).sub off (cx.P.cellsOf t)
                simpa using this
              have hsl := (hm.slot id false cs hs).1
              simp only [shapeV] at h
              split at h
              · rename_i hc
                simp only [Bool.and_eq_true, decide_eq_true_eq] at hc
                have hlen : off + cx.P.cellsOf t ≤ cs.length := by
                  have := hc.1
                  simp only [List.length_take, List.length_drop, List.length_map] at this
                  have := (ldT_ok hok).2.1
                  omega
                have hall := viewLs_ok (C := C) hm hs (cx.P.cellsOf t) off hlen
                have hvl : ∀ n off, (viewLs id off n).length = n := by
                  intro n
                  induction n with
                  | zero => intro off; rfl
                  | succ n ih => intro off; simp [viewLs, ih]
                have := load_fin ho hd hm ht hok hx hcells (hvl _ _) hall h
                exact this
              · cases h with
                | rd h =>
                  rw [hs] at h
                  dsimp only at h
                  split at h
                  · rename_i hlen
                    split at h
                    · rename_i hu
                      have hsub : ∀ (j : Nat) l, ((cs.drop off).take (cx.P.cellsOf t))[j]? = some l → cs[off + j]? = some l := by
                        intro j l hj
                        rw [List.getElem?_take] at hj
                        split at hj
                        · rwa [List.getElem?_drop] at hj
                        · cases hj
                      have hall := loadLs_ok (C := C) hm hs _ off hsub hu
                      rw [hlen] at hall
                      have hll : ∀ (ls : List Lf) off, (loadLs id off ls).length = ls.length := by
                        intro ls
                        induction ls with
                        | nil => intro off; rfl
                        | cons l r ih => intro off; simp [loadLs, ih]
                      have := load_fin ho hd hm ht hok hx hcells ((hll _ _).trans hlen) hall h
                      exact this
                    · cases h
                  · cases h
          | _ => cases h
    · -- an element of a list
      rename_i id off i o'
      obtain ⟨virt, ls, m, e, k, xs, lg', hg, hl, hp, hr, ha⟩ := listM_run h
      rw [ha]
      generalize hx : xs[i]? = q at hr
      cases hr with
      | opt hr =>
        rename_i y
        split at hr
        · rename_i hk
          dsimp only at hr
          split at hr
          · rename_i hlen
            obtain ⟨b, p, n, c, h1, h2⟩ := hv virt ls m e k xs hg hl hp (List.getElem?_eq_some_iff.1 hx).1
            obtain ⟨cs, g, a1, a2, a3⟩ := hm.leafElem hg hl h1 hx
            obtain ⟨_, hall⟩ := toL_noOw (σ := σ) (D := D) (Pn := C.Pn) hk a3
            exact load_fin ho hd hm ht hok h2 (by simpa using a1.sub o' (cx.P.cellsOf t)) hlen ((hall.drop o').take _) hr
          · cases hr
        · cases hr
    · -- an element of a frozen list
      rename_i k y o'
      split at h
      · rename_i hlen
        split at h
        · rename_i hu
          obtain ⟨b, p, arr, e, fr, f, h1, h2, h3, h4, h5⟩ := hv
          have hcs : CellsAt w ⟨b, p, none⟩ ((arr.toList.drop p).take k.w) := ⟨rfl, fun j u hj => by
            rw [List.getElem?_take] at hj
            split at hj
            · rw [List.getElem?_drop] at hj
              rw [cell_at h2]
              exact hj
            · cases hj⟩
          have hall := ((toL_frz (σ := σ) (D := D) (Pn := C.Pn) h4 h5).drop o').take (cx.P.cellsOf t)
          exact load_fin ho hd hm ht hok h1 (hcs.sub o' (cx.P.cellsOf t)) hlen (all2_undef hall hu) h
        · cases h
      · cases h
    · cases h
end Go.Vi
/- Elements of lists: how they are made of leaves, and how one of them is changed. -/
namespace Go.Vi
set_option linter.unusedVariables false
set_option linter.unusedSimpArgs false
variable {P : Program} {orc : Orc} {C : Ct} {nt : Nat} {σ σ' : St} {w w' : World} {Im Im' Pn : Nat → Prop} {D D' : Nat → SD} {own own' : Nat → Option Tag} {a : Act} {lg : List Ac}

/-! ### A stretch of a list -/
theorem setRange_length {α : Type} {ls ns : List α} {off : Nat} (h : off + ns.length ≤ ls.length) : (setRange ls off ns).length = ls.length := by
  simp only [setRange, List.length_append, List.length_take, List.length_drop]
  omega
theorem setRange_get {α : Type} {ls ns : List α} {off : Nat} (h : off + ns.length ≤ ls.length) (j : Nat) : (setRange ls off ns)[j]? = if off ≤ j ∧ j < off + ns.length then ns[j - off]? else ls[j]? := by
  unfold setRange
  have ht : (ls.take off).length = off := by simp; omega
  by_cases h1 : j < off
  · rw [if_neg (by omega), List.append_assoc, List.getElem?_append_left (by omega), List.getElem?_take, if_pos h1]
  · rw [List.append_assoc, List.getElem?_append_right (by omega), ht]
    by_cases h2 : j < off + ns.length
    · rw [if_pos ⟨by omega, h2⟩, List.getElem?_append_left (by omega)]
    · rw [if_neg (by omega), List.getElem?_append_right (by omega), List.getElem?_drop]
      congr 1
      omega
theorem All2.setRange {α β : Type} {p : α → β → Prop} {xs ns : List α} {ys ms : List β} (h : All2 p xs ys) (h' : All2 p ns ms) (off : Nat) : All2 p (setRange xs off ns) (setRange ys off ms) := by
  unfold Go.Vi.setRange
  rw [h'.length]
  exact ((h.take off).append h').append (h.drop _)
/-- The stretch that belongs to element j, where a part of element i was written. -/
theorem setRange_elem {α : Type} {cs ns : List α} {wd n i o : Nat} (hl : cs.length = n * wd) (hi : i < n) (ho : o + ns.length ≤ wd) (j : Nat) (hj : j < n) :
    ((setRange cs (i * wd + o) ns).drop (j * wd)).take wd = if j = i then setRange ((cs.drop (i * wd)).take wd) o ns else (cs.drop (j * wd)).take wd := by
  have hin : i * wd + wd ≤ n * wd := by
    have := Nat.mul_le_mul_right wd (show i + 1 ≤ n from hi)
    rwa [Nat.add_mul, Nat.one_mul] at this
  have hfit : i * wd + o + ns.length ≤ cs.length := by omega
  have hel : ((cs.drop (i * wd)).take wd).length = wd := by simp; omega
  by_cases hij : j = i
  · subst hij
    rw [if_pos rfl]
    apply List.ext_getElem?
    intro m
    rw [setRange_get (by omega), List.getElem?_take, List.getElem?_drop, setRange_get hfit, List.getElem?_take, List.getElem?_drop]
    by_cases hm : m < wd
    · rw [if_pos hm, if_pos hm]
      by_cases h2 : o ≤ m ∧ m < o + ns.length
      · rw [if_pos (by omega), if_pos h2]
        congr 1
        omega
      · rw [if_neg (by omega), if_neg h2]
    · rw [if_neg hm, if_neg hm, if_neg (by omega)]
  · rw [if_neg hij]
    apply List.ext_getElem?
    intro m
    rw [List.getElem?_take, List.getElem?_drop, setRange_get hfit, List.getElem?_take, List.getElem?_drop]
    by_cases hm : m < wd
    · rw [if_pos hm, if_pos hm, if_neg]
      rcases Nat.lt_or_gt_of_ne hij with hlt | hgt
      · have : j * wd + wd ≤ i * wd := by
          have := Nat.mul_le_mul_right wd (show j + 1 ≤ i from hlt)
          rwa [Nat.add_mul, Nat.one_mul] at this
        omega
      · have : i * wd + wd ≤ j * wd := by
          have := Nat.mul_le_mul_right wd (show i + 1 ≤ j from hgt)
          rwa [Nat.add_mul, Nat.one_mul] at this
        omega
    · rw [if_neg hm, if_neg hm]

/-! ### Leaves, values, footprints -/
def L3 (w : World) (Im Pn : Nat → Prop) : List Lf → List Value → List (List Nat) → Prop
  | [], [], [] => True
  | l :: ls, v :: vs, f :: fs => LeafOk w Im Pn l v f ∧ L3 w Im Pn ls vs fs
  | _, _, _ => False
theorem L3.length : ∀ {ls : List Lf} {vs : List Value} {fs : List (List Nat)}, L3 w Im Pn ls vs fs → vs.length = ls.length ∧ fs.length = ls.length
  | [], [], [], _ => ⟨rfl, rfl⟩
  | _ :: _, _ :: _, _ :: _, h => by obtain ⟨a, b⟩ := L3.length h.2; simp [a, b]
  | [], [], _ :: _, h => h.elim
  | [], _ :: _, _, h => h.elim
  | _ :: _, [], _, h => h.elim
  | _ :: _, _ :: _, [], h => h.elim
theorem L3.append : ∀ {ls : List Lf} {vs : List Value} {fs : List (List Nat)} {ls' : List Lf} {vs' : List Value} {fs' : List (List Nat)}, L3 w Im Pn ls vs fs → L3 w Im Pn ls' vs' fs' → L3 w Im Pn (ls ++ ls') (vs ++ vs') (fs ++ fs')
  | [], [], [], _, _, _, _, h => h
  | _ :: _, _ :: _, _ :: _, _, _, _, h, h' => ⟨h.1, L3.append h.2 h'⟩
  | [], [], _ :: _, _, _, _, h, _ => h.elim
  | [], _ :: _, _, _, _, _, h, _ => h.elim
  | _ :: _, [], _, _, _, _, h, _ => h.elim
  | _ :: _, _ :: _, [], _, _, _, h, _ => h.elim
theorem L3.take : ∀ {ls : List Lf} {vs : List Value} {fs : List (List Nat)}, L3 w Im Pn ls vs fs → ∀ n, L3 w Im Pn (ls.take n) (vs.take n) (fs.take n)
  | _, _, _, _, 0 => by simp [L3]
  | [], [], [], _, n + 1 => by simp [L3]
  | _ :: _, _ :: _, _ :: _, h, n + 1 => ⟨h.1, L3.take h.2 n⟩
  | [], [], _ :: _, h, _ + 1 => h.elim
  | [], _ :: _, _, h, _ + 1 => h.elim
  | _ :: _, [], _, h, _ + 1 => h.elim
  | _ :: _, _ :: _, [], h, _ + 1 => h.elim
theorem L3.drop : ∀ {ls : List Lf} {vs : List Value} {fs : List (List Nat)}, L3 w Im Pn ls vs fs → ∀ n, L3 w Im Pn (ls.drop n) (vs.drop n) (fs.drop n)
  | _, _, _, h, 0 => by simpa using h
  | [], [], [], _, n + 1 => by simp [L3]
  | _ :: _, _ :: _, _ :: _, h, n + 1 => by simpa using L3.drop h.2 n
  | [], [], _ :: _, h, _ + 1 => h.elim
  | [], _ :: _, _, h, _ + 1 => h.elim
  | _ :: _, [], _, h, _ + 1 => h.elim
  | _ :: _, _ :: _, [], h, _ + 1 => h.elim
theorem L3.setRange {ls ns : List Lf} {vs us : List Value} {fs gs : List (List Nat)} (h : L3 w Im Pn ls vs fs) (h' : L3 w Im Pn ns us gs) (off : Nat) :
    L3 w Im Pn (setRange ls off ns) (setRange vs off us) (setRange fs off gs) := by
  unfold Go.Vi.setRange
  obtain ⟨e1, e2⟩ := h'.length
  rw [e1, e2]
  exact ((h.take off).append h').append (h.drop _)
theorem Taken.l3 : ∀ {ls : List Lf} {vs : List Value} {fs : List (List Nat)} {n : Nat}, Taken w Im Pn own n ls vs fs → L3 w Im Pn ls vs fs
  | [], [], [], _, _ => trivial
  | _ :: _, _ :: _, _ :: _, _, h => ⟨h.1.1, Taken.l3 h.2⟩
  | [], [], _ :: _, _, h => h.elim
  | [], _ :: _, _, _, h => h.elim
  | _ :: _, [], _, _, h => h.elim
  | _ :: _, _ :: _, [], _, h => h.elim
theorem L3.imp (hI : ∀ b, Im b → w'.heap[b]? = w.heap[b]?) (hm : ∀ b, Im b → Im' b) (hP : ∀ b, Pn b → w'.heap[b]? = w.heap[b]?) : ∀ {ls : List Lf} {vs : List Value} {fs : List (List Nat)}, (∀ f ∈ fs, ∀ b ∈ f, w'.heap[b]? = w.heap[b]?) → L3 w Im Pn ls vs fs → L3 w' Im' Pn ls vs fs
  | [], [], [], _, _ => trivial
  | _ :: _, _ :: _, f :: fs, hf, h => ⟨h.1.imp hI hm hP (hf f List.mem_cons_self), L3.imp hI hm hP (fun g hg => hf g (List.mem_cons_of_mem _ hg)) h.2⟩
  | [], [], _ :: _, _, h => h.elim
  | [], _ :: _, _, _, h => h.elim
  | _ :: _, [], _, _, h => h.elim
  | _ :: _, _ :: _, [], _, h => h.elim
theorem L3.one : ∀ {ls : List Lf} {vs : List Value} {fs : List (List Nat)}, L3 w Im Pn ls vs fs → ∀ v ∈ vs, v.oneCell' = true
  | [], [], [], _, v, hv => by cases hv
  | _ :: _, _ :: _, _ :: _, h, v, hv => by
    rcases List.mem_cons.1 hv with rfl | hv
    · exact h.1.one
    · exact L3.one h.2 v hv
  | [], [], _ :: _, h, _, _ => h.elim
  | [], _ :: _, _, h, _, _ => h.elim
  | _ :: _, [], _, h, _, _ => h.elim
  | _ :: _, _ :: _, [], h, _, _ => h.elim
/-- An element, told as leaves. -/
theorem toL_l3 : ∀ {k : Kd} {x : k.T} {vs : List Value} {f : List Nat}, RepK w Im k x vs f → ∃ fs, L3 w Im Pn (toL .own k x) vs fs ∧ fs.flatten = f
  | .int _, _, _, _, h => by simp only [RepK] at h; obtain ⟨rfl, rfl⟩ := h; exact ⟨[[]], ⟨⟨rfl, rfl, rfl⟩, trivial⟩, rfl⟩
  | .bool, _, _, _, h => by simp only [RepK] at h; obtain ⟨rfl, rfl⟩ := h; exact ⟨[[]], ⟨⟨rfl, rfl, rfl⟩, trivial⟩, rfl⟩
  | .val, v, _, _, h => by simp only [RepK] at h; obtain ⟨rfl, h1, rfl⟩ := h; exact ⟨[[]], ⟨⟨rfl, h1, rfl⟩, trivial⟩, rfl⟩
  | .pair a b, x, vs, f, h => by
    simp only [RepK] at h
    obtain ⟨f1, f2, h1, h2, rfl⟩ := h
    obtain ⟨g1, a1, a2⟩ := toL_l3 h1
    obtain ⟨g2, b1, b2⟩ := toL_l3 h2
    refine ⟨g1 ++ g2, ?_, by rw [List.flatten_append, a2, b2]⟩
    have := a1.append b1
    rwa [List.take_append_drop] at this
  | .fz e k, xs, vs, f, h => by
    simp only [RepK] at h
    obtain ⟨v, rfl, rfl, h3⟩ := h
    exact ⟨[[]], ⟨⟨rfl, h3⟩, trivial⟩, rfl⟩
  | .ow e k, o, vs, f, h => by
    simp only [RepK] at h
    obtain ⟨v, rfl, h2, h3⟩ := h
    cases o with
    | none => exact ⟨[[]], ⟨⟨h2, rfl⟩, trivial⟩, by simp at h3; rw [h3]; rfl⟩
    | some xs => exact ⟨[f], ⟨h3, trivial⟩, by simp⟩
theorem castL_heq {k' k : Kd} (h : k' = k) (xs : List k'.T) : HEq (castL h xs) xs := by subst h; rfl
/-- Leaves that make an element: what it owns, and what is frozen in it. -/
theorem ofL_ok (hpn : ∀ b, Pn b → Im b) : ∀ (k : Kd) {ls : List Lf} {y : k.T} {vs : List Value} {fs : List (List Nat)}, ofL k ls = some y → L3 w Im Pn ls vs fs →
    ∃ (f fr : List Nat), RepK w (fun b => Im b ∨ b ∈ fr) k y vs f ∧ (∀ b ∈ f, b ∈ fs.flatten) ∧ (∀ b ∈ fr, b ∈ fs.flatten) ∧ (fs.flatten.Nodup → f.Nodup ∧ ∀ b ∈ f, b ∉ fr)
  | .int kk, ls, y, vs, fs, h, hl => by
    simp only [ofL] at h
    split at h
    · split at h
      · rename_i n j he
        cases h
        subst he
        match vs, fs, hl with
        | [v], [f], hl =>
          obtain ⟨⟨rfl, _, rfl⟩, _⟩ := hl
          exact ⟨[], [], ⟨rfl, rfl⟩, by simp, by simp, fun _ => ⟨List.nodup_nil, by simp⟩⟩
        | [], _, hl => exact hl.elim
        | [_], [], hl => exact hl.elim
        | [_], _ :: _ :: _, hl => exact hl.2.elim
        | _ :: _ :: _, [], hl => exact hl.elim
        | _ :: _ :: _, _ :: _, hl => exact hl.2.elim
      · cases h
    · cases h
  | .bool, ls, y, vs, fs, h, hl => by
    simp only [ofL] at h
    split at h
    · cases h
      match vs, fs, hl with
      | [v], [f], hl =>
        obtain ⟨⟨rfl, _, rfl⟩, _⟩ := hl
        exact ⟨[], [], ⟨rfl, rfl⟩, by simp, by simp, fun _ => ⟨List.nodup_nil, by simp⟩⟩
      | [], _, hl => exact hl.elim
      | [_], [], hl => exact hl.elim
      | [_], _ :: _ :: _, hl => exact hl.2.elim
      | _ :: _ :: _, [], hl => exact hl.elim
      | _ :: _ :: _, _ :: _, hl => exact hl.2.elim
    · cases h
  | .val, ls, y, vs, fs, h, hl => by
    simp only [ofL] at h
    split at h
    · rename_i u
      match vs, fs, hl with
      | [v], [f], hl =>
        obtain ⟨⟨rfl, h1, rfl⟩, _⟩ := hl
        have hy : y = v := by split at h <;> first | (cases h; done) | (cases h; rfl)
        subst hy
        exact ⟨[], [], ⟨rfl, h1, rfl⟩, by simp, by simp, fun _ => ⟨List.nodup_nil, by simp⟩⟩
      | [], _, hl => exact hl.elim
      | [_], [], hl => exact hl.elim
      | [_], _ :: _ :: _, hl => exact hl.2.elim
      | _ :: _ :: _, [], hl => exact hl.elim
      | _ :: _ :: _, _ :: _, hl => exact hl.2.elim
    · cases h
  | .pair a b, ls, y, vs, fs, h, hl => by
    simp only [ofL] at h
    split at h
    · rename_i x z hx hz
      cases h
      obtain ⟨f1, r1, a1, a2, a3, a4⟩ := ofL_ok hpn a hx (hl.take a.w)
      obtain ⟨f2, r2, b1, b2, b3, b4⟩ := ofL_ok hpn b hz (hl.drop a.w)
      have hsp : fs.flatten = (fs.take a.w).flatten ++ (fs.drop a.w).flatten := by rw [← List.flatten_append, List.take_append_drop]
      refine ⟨f1 ++ f2, r1 ++ r2, ⟨f1, f2, RepK.imp (fun _ _ => rfl) (fun b hb => ?_) (fun _ _ => rfl) a1, RepK.imp (fun _ _ => rfl) (fun b hb => ?_) (fun _ _ => rfl) b1, rfl⟩, fun b hb => ?_, fun b hb => ?_, fun hn => ?_⟩
      · exact hb.imp (fun h => h) (List.mem_append_left _)
      · exact hb.imp (fun h => h) (List.mem_append_right _)
      · rw [hsp]; rcases List.mem_append.1 hb with hb | hb
        · exact List.mem_append_left _ (a2 b hb)
        · exact List.mem_append_right _ (b2 b hb)
      · rw [hsp]; rcases List.mem_append.1 hb with hb | hb
        · exact List.mem_append_left _ (a3 b hb)
        · exact List.mem_append_right _ (b3 b hb)
      · rw [hsp] at hn
        obtain ⟨n1, n2, n3⟩ := List.nodup_append.1 hn
        obtain ⟨p1, p2⟩ := a4 n1
        obtain ⟨q1, q2⟩ := b4 n2
        refine ⟨List.nodup_append.2 ⟨p1, q1, fun x hx z hz => n3 x (a2 x hx) z (b2 z hz)⟩, fun b hb hr => ?_⟩
        rcases List.mem_append.1 hb with hb | hb <;> rcases List.mem_append.1 hr with hr | hr
        · exact p2 b hb hr
        · exact n3 b (a2 b hb) b (b3 b hr) rfl
        · exact n3 b (a3 b hr) b (b2 b hb) rfl
        · exact q2 b hb hr
    · cases h
  | .fz e k, ls, y, vs, fs, h, hl => by
    simp only [ofL] at h
    split at h
    · rename_i m e' k' xs
      split at h
      · rename_i he
        subst he
        split at h
        · rename_i hk _
          cases h
          subst hk
          match vs, fs, hl with
          | [v], [f], hl =>
            obtain ⟨hl, _⟩ := hl
            cases m with
            | own => exact ⟨[], f, ⟨v, rfl, rfl, Own.frz hl (fun _ => .inl) (fun _ => .inr)⟩, by simp, by simp, fun _ => ⟨List.nodup_nil, by simp⟩⟩
            | frz => exact ⟨[], [], ⟨v, rfl, rfl, Frz.imp (fun _ _ => rfl) (fun _ => .inl) hl.2⟩, by simp, by simp, fun _ => ⟨List.nodup_nil, by simp⟩⟩
            | pin => exact ⟨[], [], ⟨v, rfl, rfl, Frz.imp (fun _ _ => rfl) (fun b hb => .inl (hpn b hb)) hl.2⟩, by simp, by simp, fun _ => ⟨List.nodup_nil, by simp⟩⟩
          | [], _, hl => exact hl.elim
          | [_], [], hl => exact hl.elim
          | [_], _ :: _ :: _, hl => exact hl.2.elim
          | _ :: _ :: _, [], hl => exact hl.elim
          | _ :: _ :: _, _ :: _, hl => exact hl.2.elim
        · cases h
      · cases h
    · cases h
  | .ow e k, ls, y, vs, fs, h, hl => by
    simp only [ofL] at h
    split at h
    · rename_i e' k' xs
      split at h
      · rename_i he
        subst he
        split at h
        · rename_i hk _
          cases h
          subst hk
          match vs, fs, hl with
          | [v], [f], hl =>
            obtain ⟨hl, _⟩ := hl
            have hone : v.oneCell' = true := by obtain ⟨a, c, rfl⟩ := OwnG.slice hl; rfl
            exact ⟨f, [], ⟨v, rfl, hone, Own.imp (fun _ _ => rfl) (fun _ => .inl) (fun _ _ => rfl) hl⟩, by simp, by simp, fun hn => ⟨by simpa using hn, by simp⟩⟩
          | [], _, hl => exact hl.elim
          | [_], [], hl => exact hl.elim
          | [_], _ :: _ :: _, hl => exact hl.2.elim
          | _ :: _ :: _, [], hl => exact hl.elim
          | _ :: _ :: _, _ :: _, hl => exact hl.2.elim
        · cases h
      · cases h
    · cases h
end Go.Vi
/- One element of a list that is owned is written. -/
namespace Go.Vi
set_option linter.unusedVariables false
set_option linter.unusedSimpArgs false
variable {P : Program} {orc : Orc} {C : Ct} {nt : Nat} {σ σ' : St} {w w' : World} {Im Im' Pn : Nat → Prop} {D D' : Nat → SD} {own own' : Nat → Option Tag} {a : Act} {lg : List Ac}

theorem mem_flatten_set {fss : List (List Nat)} {i : Nat} {fy : List Nat} {b : Nat} (h : b ∈ (fss.set i fy).flatten) : b ∈ fy ∨ ∃ j f, j ≠ i ∧ fss[j]? = some f ∧ b ∈ f := by
  obtain ⟨f, hf, hb⟩ := List.mem_flatten.1 h
  obtain ⟨j, hj⟩ := List.getElem?_of_mem hf
  rw [List.getElem?_set] at hj
  split at hj
  · split at hj
    · cases hj; exact .inl hb
    · cases hj
  · rename_i hne
    exact .inr ⟨j, f, fun e => hne e.symm, hj, hb⟩
theorem nodup_flatten_set : ∀ {fss : List (List Nat)} {i : Nat} {fy : List Nat}, fss.flatten.Nodup → fy.Nodup → (∀ b ∈ fy, ∀ j f, j ≠ i → fss[j]? = some f → b ∉ f) → (fss.set i fy).flatten.Nodup
  | [], i, fy, _, _, _ => by simp
  | f :: r, 0, fy, h, hy, hd => by
    simp only [List.set_cons_zero, List.flatten_cons] at h ⊢
    obtain ⟨h1, h2, h3⟩ := List.nodup_append.1 h
    refine List.nodup_append.2 ⟨hy, h2, fun x hx z hz e => ?_⟩
    subst e
    obtain ⟨g, hg, hxg⟩ := List.mem_flatten.1 hz
    obtain ⟨j, hj⟩ := List.getElem?_of_mem hg
    exact hd x hx (j + 1) g (by omega) (by simpa using hj) hxg
  | f :: r, i + 1, fy, h, hy, hd => by
    simp only [List.set_cons_succ, List.flatten_cons] at h ⊢
    obtain ⟨h1, h2, h3⟩ := List.nodup_append.1 h
    refine List.nodup_append.2 ⟨h1, nodup_flatten_set h2 hy (fun b hb j g hj hg => hd b hb (j + 1) g (by omega) (by simpa using hg)), fun x hx z hz e => ?_⟩
    subst e
    rcases mem_flatten_set hz with hz | ⟨j, g, hj, hg, hxg⟩
    · exact hd x hz 0 f (by omega) rfl hx
    · exact h3 x hx x (List.mem_flatten.2 ⟨g, List.mem_of_getElem? hg, hxg⟩) rfl
/-- What is known of a list that is owned, and of one of its elements. -/
structure ElemAt (w : World) (Im : Nat → Prop) (e : TypeId) (k : Kd) (xs : List k.T) (v : Value) (f : List Nat) (i : Nat) (x : k.T) (g n c : Nat) (cur : Array Value) (fss : List (List Nat)) (fx : List Nat) : Prop where
  hv : v = .slice (some ⟨g, 0, none⟩) xs.length c
  hh : w.heap[g]? = some (.cells cur e (0, 0))
  hc : xs.length ≤ c
  hm : c ≤ maxLen
  hs : cur.size = c * k.w
  hr : RepG k.w (RepK w Im k) xs (cur.toList.take (xs.length * k.w)) fss
  hf : f = g :: fss.flatten
  hn : f.Nodup
  hx : fss[i]? = some fx
  hrep : RepK w Im k x ((cur.toList.drop (i * k.w)).take k.w) fx
theorem Own.elemAt {e : TypeId} {k : Kd} {xs : List k.T} {v : Value} {f : List Nat} (h : Own w Im e k xs v f) {i : Nat} {x : k.T} (hx : xs[i]? = some x) : ∃ g c cur fss fx, ElemAt w Im e k xs v f i x g xs.length c cur fss fx := by
  obtain ⟨cs, fss, ho, hr, hf, hn⟩ := h
  rcases ho.2 with ⟨_, h0⟩ | ⟨g, cap, cur, hsl, _, hh, hc, hm, hs, htk⟩
  · have : xs = [] := List.eq_nil_of_length_eq_zero h0
    subst this
    simp at hx
  · subst htk
    obtain ⟨fx, hfx, hrep⟩ := hr.2.2 i x hx
    have hi : i < xs.length := (List.getElem?_eq_some_iff.1 hx).1
    have hcs : (((cur.toList).take (xs.length * k.w)).drop (i * k.w)).take k.w = (cur.toList.drop (i * k.w)).take k.w := by
      rw [List.drop_take, List.take_take]
      congr 1
      have : i * k.w + k.w ≤ xs.length * k.w := by
        have := Nat.mul_le_mul_right k.w (show i + 1 ≤ xs.length from hi)
        rwa [Nat.add_mul, Nat.one_mul] at this
      omega
    rw [hcs] at hrep
    refine ⟨g, cap, cur, fss, fx, hsl, hh, hc, hm, hs, hr, ?_, hn, hfx, hrep⟩
    rw [hf, hsl]
    rfl
def newOwn (own : Nat → Option Tag) (id off : Nat) (fy fr fx : List Nat) (tg : Option Tag) : Nat → Option Tag := fun b =>
  if b ∈ fy then some (.leaf id off) else if b ∈ fr then none else if b ∈ fx then tg else own b
theorem RM.setElem (hm : RM C σ w Im D own) (ht : RT C nt σ w Im D a) {id off : Nat} {virt : Bool} {ls : List Lf} {e : TypeId} {k : Kd} {xs : List k.T} (hg : σ.get (2 * id + 1) = some (.slot virt ls)) (hl : ls[off]? = some (.lst .own e k xs))
    {v : Value} {f : List Nat} (hdv : (D id).vs[off]? = some v) (hdf : (D id).fs[off]? = some f) (hown : ∀ b ∈ f, own b = some (.leaf id off)) {i : Nat} {x : k.T} (hx : xs[i]? = some x) {g c : Nat} {cur : Array Value} {fss : List (List Nat)} {fx : List Nat}
    (h : ElemAt w Im e k xs v f i x g xs.length c cur fss fx) {o : Nat} {news : List Value} (ho : o + news.length ≤ k.w) (h1 : ∀ u ∈ news, u.oneCell' = true) {y : k.T} {fy fr : List Nat} {tg : Option Tag}
    (hy : RepK (w.setRow g (setRange cur.toList (i * k.w + o) news).toArray) (fun b => Im b ∨ b ∈ fr) k y (setRange ((cur.toList.drop (i * k.w)).take k.w) o news) fy) (hyn : fy.Nodup)
    (hfy : ∀ b ∈ fy, b ∈ fx ∨ ∃ m, own b = some (.fl m)) (hfr : ∀ b ∈ fr, b ∈ fx ∨ ∃ m, own b = some (.fl m)) (hyr : ∀ b ∈ fy, b ∉ fr) (htg : ∀ t, tg = some t → ∃ m, t = .fl m) :
    RM C (σ.set (2 * id + 1) (some (.slot virt (ls.set off (.lst .own e k (xs.set i y)))))) (w.setRow g (setRange cur.toList (i * k.w + o) news).toArray) (fun b => Im b ∨ b ∈ fr)
      (fun j => if j = id then { D id with fs := (D id).fs.set off (g :: (fss.set i fy).flatten) } else D j) (newOwn own id off fy fr fx tg) ∧
    RT C nt (σ.set (2 * id + 1) (some (.slot virt (ls.set off (.lst .own e k (xs.set i y)))))) (w.setRow g (setRange cur.toList (i * k.w + o) news).toArray) (fun b => Im b ∨ b ∈ fr)
      (fun j => if j = id then { D id with fs := (D id).fs.set off (g :: (fss.set i fy).flatten) } else D j) a ∧
    ∀ b, b ≠ g → (w.setRow g (setRange cur.toList (i * k.w + o) news).toArray).heap[b]? = w.heap[b]? := by
  have hgf : g ∈ f := by rw [h.hf]; exact List.mem_cons_self
  have hgo : own g = some (.leaf id off) := hown g hgf
  have hgim : ¬ Im g := (hm.ow g _ hgo).1
  have hother : ∀ b, b ≠ g → (w.setRow g (setRange cur.toList (i * k.w + o) news).toArray).heap[b]? = w.heap[b]? := fun b hb => setRow_other w g b _ hb
  have hself := setRow_heap w g cur (setRange cur.toList (i * k.w + o) news).toArray e (0, 0) h.hh
  generalize hw' : w.setRow g (setRange cur.toList (i * k.w + o) news).toArray = w' at hy hother hself ⊢
  have hos : w'.os = w.os ∧ w'.tape = w.tape ∧ w'.output = w.output ∧ w'.heap.size = w.heap.size := by rw [← hw']; simp
  have hi : i < xs.length := (List.getElem?_eq_some_iff.1 hx).1
  have hoff : off < ls.length := (List.getElem?_eq_some_iff.1 hl).1
  have hfxf : ∀ b ∈ fx, b ∈ f := fun b hb => by rw [h.hf]; exact List.mem_cons_of_mem _ (List.mem_flatten.2 ⟨fx, List.mem_of_getElem? h.hx, hb⟩)
  have hgnx : g ∉ fss.flatten := by have := h.hn; rw [h.hf] at this; exact (List.nodup_cons.1 this).1
  have hgfx : g ∉ fx := fun hb => hgnx (List.mem_flatten.2 ⟨fx, List.mem_of_getElem? h.hx, hb⟩)
  have hgfy : g ∉ fy := fun hb => by
    rcases hfy g hb with hb | ⟨m, hb⟩
    · exact hgfx hb
    · rw [hgo] at hb; cases hb
  have hgfr : g ∉ fr := fun hb => by
    rcases hfr g hb with hb | ⟨m, hb⟩
    · exact hgfx hb
    · rw [hgo] at hb; cases hb
  have hImne : ∀ b, Im b → b ≠ g := fun b hb e => hgim (e ▸ hb)
  -- tags that are not touched
  have hkeep : ∀ b t, own b = some t → (∀ m, t ≠ .fl m) → t ≠ .leaf id off → newOwn own id off fy fr fx tg b = some t := by
    intro b t hb hfl hlf
    have n1 : b ∉ fx := fun h' => by have := hown b (hfxf b h'); rw [hb] at this; cases this; exact hlf rfl
    have n2 : b ∉ fy := fun h' => by
      rcases hfy b h' with h' | ⟨m, h'⟩
      · exact n1 h'
      · rw [hb] at h'; cases h'; exact hfl m rfl
    have n3 : b ∉ fr := fun h' => by
      rcases hfr b h' with h' | ⟨m, h'⟩
      · exact n1 h'
      · rw [hb] at h'; cases h'; exact hfl m rfl
    simp [newOwn, n1, n2, n3, hb]
  have howned : ∀ b, b ∈ fy ∨ b ∈ fr ∨ b ∈ fx → ∃ t, own b = some t := by
    intro b hb
    rcases hb with hb | hb | hb
    · rcases hfy b hb with hb | ⟨m, hb⟩
      · exact ⟨_, hown b (hfxf b hb)⟩
      · exact ⟨_, hb⟩
    · rcases hfr b hb with hb | ⟨m, hb⟩
      · exact ⟨_, hown b (hfxf b hb)⟩
      · exact ⟨_, hb⟩
    · exact ⟨_, hown b (hfxf b hb)⟩
  have hnew : ∀ b t, newOwn own id off fy fr fx tg b = some t → b ∉ fr ∧ ∃ t', own b = some t' := by
    intro b t hb
    unfold newOwn at hb
    split at hb
    · rename_i h'; exact ⟨hyr b h', howned b (.inl h')⟩
    · split at hb
      · cases hb
      · rename_i h'
        refine ⟨h', ?_⟩
        split at hb
        · rename_i h''; exact howned b (.inr (.inr h''))
        · exact ⟨t, hb⟩
  refine ⟨?_, ?_, hother⟩
  · refine { asc := hm.asc.set _ _, os := hos.1.trans hm.os, tape := hos.2.1.trans hm.tape, output := hos.2.2.1.trans hm.output, size := by rw [hos.2.2.2]; exact hm.size, frame := fun b hb hs => ?_, imlt := fun b hb => ?_, imfrom := fun b hb => ?_, ima := fun b hb => .inl (hm.ima b hb), pna := hm.pna, ow := fun b t hb => ?_, slot := fun j virt' ls' hj => ?_ }
    · rw [hother b (fun e' => by
        subst e'
        rcases (hm.ow b _ hgo).2.1 with h' | h'
        · exact hs h'
        · omega)]
      exact hm.frame b hb hs
    · rw [hos.2.2.2]
      rcases hb with hb | hb
      · exact hm.imlt b hb
      · obtain ⟨t, ht'⟩ := howned b (.inr (.inl hb)); exact hm.olt ht'
    · rcases hb with hb | hb
      · exact hm.imfrom b hb
      · obtain ⟨t, ht'⟩ := howned b (.inr (.inl hb)); exact .inr (hm.ow b t ht').2.1
    · obtain ⟨n1, t', ht'⟩ := hnew b t hb
      obtain ⟨m1, m2, arr, e', m3⟩ := hm.ow b t' ht'
      refine ⟨fun hi' => hi'.elim m1 n1, m2, ?_⟩
      by_cases hbg : b = g
      · subst hbg; exact ⟨_, _, hself⟩
      · exact ⟨arr, e', by rw [hother b hbg]; exact m3⟩
    · rw [St.get_set] at hj
      by_cases hjid : j = id
      · subst hjid
        simp only [if_true] at hj ⊢
        cases hj
        obtain ⟨s1, s2, s3⟩ := hm.slot j virt ls hg
        refine ⟨⟨fun hvt => ?_, by simp [s1.vlen], by simp [s1.flen], fun n l hn => ?_⟩, fun hvt => hkeep _ _ (s2 hvt) (by intro m; simp) (by simp), fun n f' z hf' hz => ?_⟩
        · obtain ⟨e', he'⟩ := s1.box hvt
          refine ⟨e', ?_⟩
          rw [hother _ (fun h' => by have := s2 hvt; rw [h', hgo] at this; cases this)]
          exact he'
        · by_cases hn' : n = off
          · subst hn'
            simp only [List.getElem?_set, hoff, if_true] at hn
            have hn : l = .lst .own e k (xs.set i y) := by simpa using hn.symm
            subst hn
            refine ⟨v, g :: (fss.set i fy).flatten, hdv, by simp [s1.flen, hoff], ?_⟩
            have hcl2 := h.hs
            have hcl : cur.toList.length = c * k.w := by simpa using h.hs
            have hnw : xs.length * k.w ≤ c * k.w := Nat.mul_le_mul_right _ h.hc
            have hin : i * k.w + k.w ≤ xs.length * k.w := by
              have := Nat.mul_le_mul_right k.w (show i + 1 ≤ xs.length from hi)
              rwa [Nat.add_mul, Nat.one_mul] at this
            have hrl : (setRange cur.toList (i * k.w + o) news).length = cur.toList.length := setRange_length (by omega)
            have htk : (setRange cur.toList (i * k.w + o) news).take (xs.length * k.w) = setRange (cur.toList.take (xs.length * k.w)) (i * k.w + o) news := by
              apply List.ext_getElem?
              intro j'
              rw [List.getElem?_take, setRange_get (by omega), setRange_get (by simp; omega), List.getElem?_take]
              by_cases h' : j' < xs.length * k.w
              · simp [h']
              · simp only [h', if_false]
                rw [if_neg (by omega)]
            have hlt : (cur.toList.take (xs.length * k.w)).length = xs.length * k.w := by simp; omega
            refine ⟨setRange (cur.toList.take (xs.length * k.w)) (i * k.w + o) news, fss.set i fy, ⟨?_, .inr ⟨g, c, _, ?_, Nat.zero_le _, hself, ?_, h.hm, ?_, ?_⟩⟩, ⟨?_, ?_, fun m z hz => ?_⟩, ?_, ?_⟩
            · rw [setRange_length (by omega), hlt]; simp
            · rw [h.hv]; simp
            · simpa using h.hc
            · simp only [List.size_toArray, hrl]; exact hcl
            · simp only [List.length_set]; exact htk
            · rw [setRange_length (by omega), hlt]; simp
            · simp [h.hr.2.1]
            · have hmlt : m < xs.length := by have := (List.getElem?_eq_some_iff.1 hz).1; simpa using this
              rw [setRange_elem hlt hi ho m hmlt]
              rw [List.getElem?_set] at hz ⊢
              by_cases hmi : i = m
              · subst hmi
                simp only [if_true, hi, (show i < fss.length by rw [h.hr.2.1]; exact hi)] at hz ⊢
                cases hz
                refine ⟨fy, rfl, ?_⟩
                rw [List.drop_take, List.take_take, show min k.w (xs.length * k.w - i * k.w) = k.w by omega]
                exact hy
              · simp only [hmi, if_false] at hz ⊢
                rw [if_neg (fun e' => hmi e'.symm)]
                obtain ⟨fm, a1, a2⟩ := h.hr.2.2 m z hz
                refine ⟨fm, a1, a2.imp (fun b hb => hother b (hImne b hb)) (fun b hb => .inl hb) (fun b hb => hother b fun e' => hgnx ?_)⟩
                subst e'
                exact List.mem_flatten.2 ⟨fm, List.mem_of_getElem? a1, hb⟩
            · rw [h.hv]; rfl
            · refine List.nodup_cons.2 ⟨fun hb => ?_, nodup_flatten_set ?_ hyn (fun b hb j' f' hj' hf' hbf => ?_)⟩
              · rcases mem_flatten_set hb with hb | ⟨j', f', _, hf', hb⟩
                · exact hgfy hb
                · exact hgnx (List.mem_flatten.2 ⟨f', List.mem_of_getElem? hf', hb⟩)
              · have := h.hn; rw [h.hf] at this; exact (List.nodup_cons.1 this).2
              · rcases hfy b hb with hb | ⟨m, hb⟩
                · have hnd : fss.flatten.Nodup := by have := h.hn; rw [h.hf] at this; exact (List.nodup_cons.1 this).2
                  have := nodup_flatten_set (fss := fss) (i := i) (fy := []) hnd
                  -- two different positions share nothing
                  have hdis : ∀ (fss : List (List Nat)), fss.flatten.Nodup → ∀ (i j' : Nat) (fx f' : List Nat), j' ≠ i → fss[i]? = some fx → fss[j']? = some f' → b ∈ fx → b ∈ f' → False := by
                    intro fss
                    induction fss with
                    | nil => intro _ i j' fx f' _ h1; simp at h1
                    | cons q r ih =>
                      intro hnd i j' fx f' hne h1 h2 hb1 hb2
                      simp only [List.flatten_cons] at hnd
                      obtain ⟨q1, q2, q3⟩ := List.nodup_append.1 hnd
                      cases i with
                      | zero =>
                        simp at h1; subst h1
                        cases j' with
                        | zero => exact hne rfl
                        | succ j' =>
                          simp at h2
                          exact q3 b hb1 b (List.mem_flatten.2 ⟨f', List.mem_of_getElem? h2, hb2⟩) rfl
                      | succ i =>
                        simp at h1
                        cases j' with
                        | zero =>
                          simp at h2; subst h2
                          exact q3 b hb2 b (List.mem_flatten.2 ⟨fx, List.mem_of_getElem? h1, hb1⟩) rfl
                        | succ j' =>
                          simp at h2
                          exact ih q2 i j' fx f' (by omega) h1 h2 hb1 hb2
                  exact hdis fss hnd i j' fx f' hj' h.hx hf' hb hbf
                · have := hown b (by rw [h.hf]; exact List.mem_cons_of_mem _ (List.mem_flatten.2 ⟨f', List.mem_of_getElem? hf', hbf⟩))
                  rw [hb] at this
                  cases this
          · rw [List.getElem?_set_ne (Ne.symm hn')] at hn
            obtain ⟨v', f', b1, b2, b3⟩ := s1.leaf n l hn
            refine ⟨v', f', b1, by rw [List.getElem?_set_ne (Ne.symm hn')]; exact b2, b3.imp (fun b hb => hother b (hImne b hb)) (fun b hb => .inl hb) (fun b hb => hother b (hImne b (hm.pnim b hb))) (fun b hb => hother b fun e' => ?_)⟩
            subst e'
            have := s3 n f' b b2 hb
            rw [hgo] at this
            cases this
            exact hn' rfl
        · have hf' : ((D j).fs.set off (g :: (fss.set i fy).flatten))[n]? = some f' := hf'
          by_cases hn' : n = off
          · subst hn'
            simp [s1.flen, hoff] at hf'
            subst hf'
            rcases List.mem_cons.1 hz with rfl | hz
            · simp only [newOwn, hgfy, hgfr, hgfx, if_false]; exact hgo
            · rcases mem_flatten_set hz with hz | ⟨j', f'', hj', hf'', hz'⟩
              · simp [newOwn, hz]
              · have hzf : z ∈ f := by rw [h.hf]; exact List.mem_cons_of_mem _ (List.mem_flatten.2 ⟨f'', List.mem_of_getElem? hf'', hz'⟩)
                have hzo := hown z hzf
                by_cases hzy : z ∈ fy
                · simp [newOwn, hzy]
                · -- z lies in another element
                  have hnd : fss.flatten.Nodup := by have := h.hn; rw [h.hf] at this; exact (List.nodup_cons.1 this).2
                  have hzx : z ∉ fx := by
                    intro hzx
                    have hdis : ∀ (fss : List (List Nat)), fss.flatten.Nodup → ∀ (i j' : Nat) (fx f' : List Nat), j' ≠ i → fss[i]? = some fx → fss[j']? = some f' → z ∈ fx → z ∈ f' → False := by
                      intro fss
                      induction fss with
                      | nil => intro _ i j' fx f' _ h1; simp at h1
                      | cons q r ih =>
                        intro hnd i j' fx f' hne h1 h2 hb1 hb2
                        simp only [List.flatten_cons] at hnd
                        obtain ⟨q1, q2, q3⟩ := List.nodup_append.1 hnd
                        cases i with
                        | zero =>
                          simp at h1; subst h1
                          cases j' with
                          | zero => exact hne rfl
                          | succ j' =>
                            simp at h2
                            exact q3 z hb1 z (List.mem_flatten.2 ⟨f', List.mem_of_getElem? h2, hb2⟩) rfl
                        | succ i =>
                          simp at h1
                          cases j' with
                          | zero =>
                            simp at h2; subst h2
                            exact q3 z hb2 z (List.mem_flatten.2 ⟨fx, List.mem_of_getElem? h1, hb1⟩) rfl
                          | succ j' =>
                            simp at h2
                            exact ih q2 i j' fx f' (by omega) h1 h2 hb1 hb2
                    exact hdis fss hnd i j' fx f'' hj' h.hx hf'' hzx hz'
                  have hzr : z ∉ fr := fun hzr => by
                    rcases hfr z hzr with hzr | ⟨m, hzr⟩
                    · exact hzx hzr
                    · rw [hzo] at hzr; cases hzr
                  simp only [newOwn, hzy, hzr, hzx, if_false]
                  exact hzo
          · rw [List.getElem?_set_ne (Ne.symm hn')] at hf'
            exact hkeep z _ (s3 n f' z hf' hz) (by intro m; simp) (by simp; exact hn')
      · rw [if_neg (by omega)] at hj
        simp only [hjid, if_false]
        obtain ⟨s1, s2, s3⟩ := hm.slot j virt' ls' hj
        refine ⟨⟨fun hvt => ?_, s1.vlen, s1.flen, fun n l hn => ?_⟩, fun hvt => hkeep _ _ (s2 hvt) (by intro m; simp) (by simp), fun n f' z hf' hz => hkeep z _ (s3 n f' z hf' hz) (by intro m; simp) (by simp; intro h'; exact absurd h' hjid)⟩
        · obtain ⟨e', he'⟩ := s1.box hvt
          refine ⟨e', ?_⟩
          rw [hother _ (fun h' => by have := s2 hvt; rw [h', hgo] at this; cases this)]
          exact he'
        · obtain ⟨v', f', b1, b2, b3⟩ := s1.leaf n l hn
          refine ⟨v', f', b1, b2, b3.imp (fun b hb => hother b (hImne b hb)) (fun b hb => .inl hb) (fun b hb => hother b (hImne b (hm.pnim b hb))) (fun b hb => hother b fun e' => ?_)⟩
          subst e'
          have := s3 n f' b b2 hb
          rw [hgo] at this
          cases this
          exact hjid rfl
  · refine ht.imp (fun b hb => hother b (hImne b hb)) (fun b hb => .inl hb) hm.pnim (fun t u hu => by rw [← hu]; exact (St.get_set_ne σ _ (by omega)).symm) fun t u j virt' ls' hu hid hj => ?_
    rw [St.get_set] at hj
    by_cases hjid : j = id
    · subst hjid
      simp only [if_true] at hj ⊢
      cases hj
      refine ⟨ls, hg, fun _ => trivial, fun off' m e' k' xs' hh hl' hp => ?_⟩
      by_cases ho' : off' = off
      · subst ho'
        simp only [List.getElem?_set, hoff, if_true] at hl'
        have hl' : (Lf.lst .own e k (xs.set i y)) = .lst m e' k' xs' := by simpa using hl'
        cases hl'
        exact ⟨_, _, xs, hl, by simp, by simp, trivial⟩
      · rw [List.getElem?_set_ne (Ne.symm ho')] at hl'
        exact ⟨m, e', xs', hl', hp, Nat.le_refl _, trivial⟩
    · rw [if_neg (by omega)] at hj
      simp only [hjid, if_false]
      exact ⟨ls', hj, fun _ => trivial, fun off' m e' k' xs' _ hl' hp => ⟨m, e', xs', hl', hp, Nat.le_refl _, trivial⟩⟩
end Go.Vi
/- Stores; loads that take a list out of its element; new variables. -/
namespace Go.Vi
set_option linter.unusedVariables false
set_option linter.unusedSimpArgs false
variable {P : Program} {orc : Orc} {C : Ct} {nt : Nat} {σ σ' : St} {w w' : World} {Im Im' Pn : Nat → Prop} {D D' : Nat → SD} {own own' : Nat → Option Tag} {a : Act} {lg : List Ac}

/-- Floating leaves become cells of an object, from cell 'off' on. -/
def settleAt (n len d off : Nat) (own : Nat → Option Tag) : Nat → Option Tag := fun x => match own x with
  | some (.fl m) => if n ≤ m ∧ m < n + len then some (.leaf d (off + (m - n))) else some (.fl m)
  | t => t
theorem settleAt_some {n len d off : Nat} {own : Nat → Option Tag} {x : Nat} {t : Tag} (h : settleAt n len d off own x = some t) : ∃ u, own x = some u := by
  unfold settleAt at h
  cases ho : own x with
  | none => rw [ho] at h; cases h
  | some u => exact ⟨u, rfl⟩
theorem settleAt_other {n len d off : Nat} {own : Nat → Option Tag} {x : Nat} (h : ∀ m, own x ≠ some (.fl m)) : settleAt n len d off own x = own x := by
  unfold settleAt
  cases ho : own x with
  | none => rfl
  | some u => cases u <;> first | rfl | exact absurd ho (h _)
theorem Taken.imp (hI : ∀ b, Im b → w'.heap[b]? = w.heap[b]?) (hm : ∀ b, Im b → Im' b) (hP : ∀ b, Pn b → w'.heap[b]? = w.heap[b]?) : ∀ {ls : List Lf} {vs : List Value} {fs : List (List Nat)} {n : Nat},
    (∀ f ∈ fs, ∀ b ∈ f, w'.heap[b]? = w.heap[b]?) → Taken w Im Pn own n ls vs fs → Taken w' Im' Pn own n ls vs fs
  | [], [], [], _, _, _ => trivial
  | _ :: _, _ :: _, f :: fs, _, hf, h => ⟨⟨h.1.1.imp hI hm hP (hf f List.mem_cons_self), h.1.2⟩, Taken.imp hI hm hP (fun g hg => hf g (List.mem_cons_of_mem _ hg)) h.2⟩
  | [], [], _ :: _, _, _, h => h.elim
  | [], _ :: _, _, _, _, h => h.elim
  | _ :: _, [], _, _, _, h => h.elim
  | _ :: _, _ :: _, [], _, _, h => h.elim
theorem Taken.fl {ls : List Lf} {vs : List Value} {fs : List (List Nat)} {n : Nat} (h : Taken w Im Pn own n ls vs fs) : ∀ f ∈ fs, ∀ b ∈ f, ∃ m, own b = some (.fl m) := by
  intro f hf b hb
  obtain ⟨i, hi⟩ := List.getElem?_of_mem hf
  obtain ⟨h1, h2, h3⟩ := h.get
  have hlt : i < ls.length := by rw [← h2]; exact (List.getElem?_eq_some_iff.1 hi).1
  obtain ⟨v, f', a1, a2, a3, a4⟩ := h3 i ls[i] (List.getElem?_eq_getElem hlt)
  rw [hi] at a2
  cases a2
  exact ⟨_, a4 b hb⟩
/-- Cells of a variable are written. -/
theorem RM.setBox (hm : RM C σ w Im D own) {id off n : Nat} {cs ls : List Lf} (hg : σ.get (2 * id + 1) = some (.slot false cs)) {vs : List Value} {fs : List (List Nat)} (htk : Taken w Im C.Pn own n ls vs fs) (hoff : off + ls.length ≤ cs.length) :
    ∃ w', w' = w.setRow (D id).b (setRange (D id).vs off vs).toArray ∧
    RM C (σ.set (2 * id + 1) (some (.slot false (setRange cs off ls)))) w' Im (fun j => if j = id then ⟨(D id).b, setRange (D id).vs off vs, setRange (D id).fs off fs⟩ else D j) (settleAt n ls.length id off own) ∧
    ∀ b, b ≠ (D id).b → w'.heap[b]? = w.heap[b]? := by
  obtain ⟨s1, s2, s3⟩ := hm.slot id false cs hg
  obtain ⟨e, he⟩ := s1.box rfl
  have hbo := s2 rfl
  have hbim : ¬ Im (D id).b := (hm.ow _ _ hbo).1
  have hother : ∀ b, b ≠ (D id).b → (w.setRow (D id).b (setRange (D id).vs off vs).toArray).heap[b]? = w.heap[b]? := fun b hb => setRow_other w _ b _ hb
  have hself := setRow_heap w (D id).b (D id).vs.toArray (setRange (D id).vs off vs).toArray e (0, 0) he
  have hsz : (w.setRow (D id).b (setRange (D id).vs off vs).toArray).heap.size = w.heap.size := by simp
  refine ⟨_, rfl, ?_, hother⟩
  have hos : (w.setRow (D id).b (setRange (D id).vs off vs).toArray).os = w.os ∧ (w.setRow (D id).b (setRange (D id).vs off vs).toArray).tape = w.tape ∧ (w.setRow (D id).b (setRange (D id).vs off vs).toArray).output = w.output := ⟨rfl, rfl, rfl⟩
  generalize w.setRow (D id).b (setRange (D id).vs off vs).toArray = w' at hother hself hsz hos ⊢
  have hImne : ∀ b, Im b → b ≠ (D id).b := fun b hb e => hbim (e ▸ hb)
  obtain ⟨t1, t2, t3⟩ := htk.get
  have hfl := htk.fl
  have hvl : off + vs.length ≤ (D id).vs.length := by rw [t1, s1.vlen]; exact hoff
  have hfl' : off + fs.length ≤ (D id).fs.length := by rw [t2, s1.flen]; exact hoff
  refine { asc := hm.asc.set _ _, os := hos.1.trans hm.os, tape := hos.2.1.trans hm.tape, output := hos.2.2.trans hm.output, size := by rw [hsz]; exact hm.size, frame := fun b hb hs => ?_, imlt := fun b hb => by rw [hsz]; exact hm.imlt b hb, imfrom := hm.imfrom, ima := hm.ima, pna := hm.pna, ow := fun b t hb => ?_, slot := fun j virt' ls' hj => ?_ }
  · rw [hother b (fun e' => by
      subst e'
      rcases (hm.ow _ _ hbo).2.1 with h' | h'
      · exact hs h'
      · omega)]
    exact hm.frame b hb hs
  · obtain ⟨u, hu⟩ := settleAt_some hb
    obtain ⟨m1, m2, arr, e', m3⟩ := hm.ow b u hu
    refine ⟨m1, m2, ?_⟩
    by_cases hbb : b = (D id).b
    · subst hbb; exact ⟨_, _, hself⟩
    · exact ⟨arr, e', by rw [hother b hbb]; exact m3⟩
  · rw [St.get_set] at hj
    by_cases hjid : j = id
    · subst hjid
      simp only [if_true] at hj ⊢
      cases hj
      refine ⟨⟨fun _ => ⟨e, hself⟩, by rw [setRange_length hvl, setRange_length hoff, s1.vlen], by rw [setRange_length hfl', setRange_length hoff, s1.flen], fun i l hl => ?_⟩, fun _ => by rw [settleAt_other (fun m => by rw [hbo]; simp)]; exact hbo, fun i f x hf hx => ?_⟩
      · rw [setRange_get hoff] at hl
        rw [setRange_get hvl, setRange_get hfl', t1, t2]
        by_cases hr : off ≤ i ∧ i < off + ls.length
        · rw [if_pos hr] at hl ⊢
          rw [if_pos hr]
          obtain ⟨v, f, a1, a2, a3, a4⟩ := t3 _ l hl
          exact ⟨v, f, a1, a2, a3.imp (fun b hb => hother b (hImne b hb)) (fun _ h => h) (fun b hb => hother b (hImne b (hm.pnim b hb))) (fun b hb => hother b fun e' => by
            subst e'
            rw [a4 _ hb] at hbo
            cases hbo)⟩
        · rw [if_neg hr] at hl ⊢
          rw [if_neg hr]
          obtain ⟨v, f, a1, a2, a3⟩ := s1.leaf i l hl
          exact ⟨v, f, a1, a2, a3.imp (fun b hb => hother b (hImne b hb)) (fun _ h => h) (fun b hb => hother b (hImne b (hm.pnim b hb))) (fun b hb => hother b fun e' => by
            subst e'
            have := s3 i f _ a2 hb
            rw [hbo] at this
            cases this)⟩
      · have hf : (setRange (D j).fs off fs)[i]? = some f := hf
        rw [setRange_get hfl'] at hf
        by_cases hr : off ≤ i ∧ i < off + fs.length
        · rw [if_pos hr] at hf
          have hlt : i - off < ls.length := by rw [← t2]; omega
          obtain ⟨v, f', a1, a2, a3, a4⟩ := t3 (i - off) ls[i - off] (List.getElem?_eq_getElem hlt)
          rw [hf] at a2
          cases a2
          unfold settleAt
          rw [a4 x hx]
          simp only []
          rw [if_pos ⟨by omega, by omega⟩]
          congr 2
          omega
        · rw [if_neg hr] at hf
          rw [settleAt_other (fun m => by rw [s3 i f x hf hx]; simp)]
          exact s3 i f x hf hx
    · rw [if_neg (by omega)] at hj
      simp only [hjid, if_false]
      obtain ⟨q1, q2, q3⟩ := hm.slot j virt' ls' hj
      refine ⟨⟨fun hvt => ?_, q1.vlen, q1.flen, fun i l hl => ?_⟩, fun hvt => by rw [settleAt_other (fun m => by rw [q2 hvt]; simp)]; exact q2 hvt, fun i f x hf hx => by rw [settleAt_other (fun m => by rw [q3 i f x hf hx]; simp)]; exact q3 i f x hf hx⟩
      · obtain ⟨e', he'⟩ := q1.box hvt
        refine ⟨e', ?_⟩
        rw [hother _ (fun h' => by have := q2 hvt; rw [h', hbo] at this; cases this; exact hjid rfl)]
        exact he'
      · obtain ⟨v, f, a1, a2, a3⟩ := q1.leaf i l hl
        exact ⟨v, f, a1, a2, a3.imp (fun b hb => hother b (hImne b hb)) (fun _ h => h) (fun b hb => hother b (hImne b (hm.pnim b hb))) (fun b hb => hother b fun e' => by
          subst e'
          have := q3 i f _ a2 hb
          rw [hbo] at this
          cases this)⟩
/-- Kills: what is left of a state. -/
theorem RM.filterEven (hm : RM C σ w Im D own) {p : Nat × V → Bool} (hp : ∀ id virt ls, p (2 * id + 1, .slot virt ls) = true) : RM C (σ.filter p) w Im D own :=
  { hm with
    asc := hm.asc.filter _
    slot := fun id virt ls hg => hm.slot id virt ls (by rw [St.get_filter hm.asc] at hg; exact (Option.filter_eq_some_iff.1 hg).1) }
theorem RM.anyFilter (hm : RM C σ w Im D own) (p : Nat × V → Bool) : RM C (σ.filter p) w Im D own :=
  { hm with
    asc := hm.asc.filter _
    slot := fun id virt ls hg => hm.slot id virt ls (by rw [St.get_filter hm.asc] at hg; exact (Option.filter_eq_some_iff.1 hg).1) }
theorem RT.filter (hm : RM C σ w Im D own) (ht : RT C nt σ w Im D a) (p : Nat × V → Bool) : RT C nt (σ.filter p) w Im D a := by
  have hg : ∀ k v, St.get (σ.filter p) k = some v → σ.get k = some v := fun k v h => by
    rw [St.get_filter hm.asc] at h
    exact (Option.filter_eq_some_iff.1 h).1
  exact ht.imp (fun _ _ => rfl) (fun _ h => h) hm.pnim (fun t v h => hg _ v h) fun t u id virt ls _ _ hs => ⟨ls, hg _ _ hs, fun _ => rfl, fun off m e k xs _ hl hp => ⟨m, e, xs, hl, hp, Nat.le_refl _, rfl⟩⟩
/-- The keys that kills strike. -/
def killsOf (id : Nat) : Nat → List Lf → List Nat
  | _, [] => []
  | off, .lst .pin _ _ _ :: r => killsOf id (off + 1) r
  | off, .lst _ _ _ _ :: r => off :: killsOf id (off + 1) r
  | off, _ :: r => killsOf id (off + 1) r
def St.kills (σ : St) (id : Nat) : List Nat → St
  | [] => σ
  | off :: r => St.kills (σ.kill id off) id r
theorem kill_none {id off : Nat} (ha : σ.Asc) (h : ∀ k v, σ.get k = some v → v.hits id off = false) : σ.kill id off = σ := by
  unfold St.kill
  refine List.filter_eq_self.2 fun p hp => ?_
  obtain ⟨k, v⟩ := p
  simp [h k v (St.get_of_mem ha hp)]
theorem killsM_run {id : Nat} {m : M} : ∀ (ls : List Lf) (off : Nat) {σ : St} {lg : List Ac}, σ.Asc → Run orc (killsM id off ls m) σ lg → ∃ lg', Run orc m (σ.kills id (killsOf id off ls)) lg' ∧ apps lg σ = apps lg' (σ.kills id (killsOf id off ls))
  | [], off, σ, lg, _, h => ⟨lg, h, rfl⟩
  | l :: r, off, σ, lg, ha, h => by
    have one : ∀ {lg}, Run orc (.kill id off (killsM id (off + 1) r m)) σ lg → ∃ lg', Run orc m (σ.kills id (off :: killsOf id (off + 1) r)) lg' ∧ apps lg σ = apps lg' (σ.kills id (off :: killsOf id (off + 1) r)) := fun h => by
      cases h with
      | kill h => exact killsM_run r (off + 1) (ha.filter _) h
      | nkill hn h =>
        simp only [St.kills]
        rw [kill_none ha hn]
        obtain ⟨lg', h1, h2⟩ := killsM_run r (off + 1) ha h
        exact ⟨lg', h1, h2⟩
    cases l with
    | lst m' e k xs =>
      cases m' with
      | pin => exact killsM_run r (off + 1) ha h
      | own => exact one h
      | frz => exact one h
    | _ => exact killsM_run r (off + 1) ha h
theorem kills_asc {id : Nat} : ∀ (os : List Nat) {σ : St}, σ.Asc → (σ.kills id os).Asc
  | [], _, h => h
  | _ :: r, _, h => kills_asc r (h.filter _)
theorem kills_get {id : Nat} : ∀ (os : List Nat) {σ : St} {k : Nat} {v : V}, σ.Asc → (σ.kills id os).get k = some v → σ.get k = some v ∧ ∀ o ∈ os, v.hits id o = false
  | [], σ, k, v, _, h => ⟨h, fun o ho => by cases ho⟩
  | o :: r, σ, k, v, ha, h => by
    obtain ⟨h1, h2⟩ := kills_get r (ha.filter _) h
    rw [St.get_filter ha] at h1
    obtain ⟨a1, a2⟩ := Option.filter_eq_some_iff.1 h1
    refine ⟨a1, fun o' ho' => ?_⟩
    rcases List.mem_cons.1 ho' with rfl | ho'
    · simpa using a2
    · exact h2 o' ho'
theorem RM.kills (hm : RM C σ w Im D own) {id : Nat} : ∀ (os : List Nat), RM C (σ.kills id os) w Im D own := by
  intro os
  exact { hm with asc := kills_asc os hm.asc, slot := fun j virt ls hg => hm.slot j virt ls (kills_get os hm.asc hg).1 }
theorem mem_killsOf {id : Nat} : ∀ {ls : List Lf} {off j : Nat} {m : Md} {e : TypeId} {k : Kd} {xs : List k.T}, ls[j]? = some (.lst m e k xs) → m ≠ .pin → off + j ∈ killsOf id off ls
  | [], _, j, _, _, _, _, h, _ => by simp at h
  | l :: r, off, 0, m, e, k, xs, h, hp => by
    simp at h
    subst h
    cases m <;> first | exact absurd rfl hp | (simp [killsOf])
  | l :: r, off, j + 1, m, e, k, xs, h, hp => by
    simp at h
    have ih := mem_killsOf (off := off + 1) (id := id) h hp
    rw [show off + 1 + j = off + (j + 1) by omega] at ih
    cases l with
    | lst m' e' k' xs' => cases m' <;> first | exact ih | exact List.mem_cons_of_mem _ ih
    | _ => exact ih
/-- The temps' side of a store into a variable. -/
theorem RT.setBox (hm : RM C σ w Im D own) (ht : RT C nt σ w Im D a) {id off : Nat} {cs ls : List Lf} (hg : σ.get (2 * id + 1) = some (.slot false cs)) (hoff : off + ls.length ≤ cs.length) {vs : List Value} {fs : List (List Nat)} (hvl : vs.length = ls.length)
    (hother : ∀ b, b ≠ (D id).b → w'.heap[b]? = w.heap[b]?) :
    RT C nt ((σ.set (2 * id + 1) (some (.slot false (setRange cs off ls)))).kills id (killsOf id off ls)) w' Im (fun j => if j = id then ⟨(D id).b, setRange (D id).vs off vs, fs⟩ else D j) a := by
  obtain ⟨s1, s2, s3⟩ := hm.slot id false cs hg
  have hbim : ¬ Im (D id).b := (hm.ow _ _ (s2 rfl)).1
  have hImne : ∀ b, Im b → b ≠ (D id).b := fun b hb e => hbim (e ▸ hb)
  have hasc : (σ.set (2 * id + 1) (some (.slot false (setRange cs off ls)))).Asc := hm.asc.set _ _
  refine ht.imp (fun b hb => hother b (hImne b hb)) (fun _ h => h) hm.pnim (fun t v h => ?_) fun t u j virt ls' hu hid hs => ?_
  · have := (kills_get _ hasc h).1
    rwa [St.get_set_ne σ _ (by omega)] at this
  · obtain ⟨hu1, hu2⟩ := kills_get _ hasc hu
    have hs1 := (kills_get _ hasc hs).1
    rw [St.get_set] at hs1
    by_cases hj : j = id
    · subst hj
      simp only [if_true] at hs1 ⊢
      cases hs1
      refine ⟨cs, hg, fun _ => trivial, fun o m e k xs hh hl hp => ?_⟩
      rw [setRange_get hoff] at hl
      by_cases hr : off ≤ o ∧ o < off + ls.length
      · rw [if_pos hr] at hl
        have := mem_killsOf (off := off) (id := j) hl hp
        rw [show off + (o - off) = o by omega] at this
        rw [hu2 o this] at hh
        cases hh
      · rw [if_neg hr] at hl
        refine ⟨m, e, xs, hl, hp, Nat.le_refl _, ?_⟩
        rw [setRange_get (by rw [hvl, s1.vlen]; exact hoff), hvl, if_neg hr]
    · rw [if_neg (by omega)] at hs1
      simp only [hj, if_false]
      exact ⟨ls', hs1, fun _ => trivial, fun o m e k xs _ hl hp => ⟨m, e, xs, hl, hp, Nat.le_refl _, trivial⟩⟩
/-- A store of cells into a block. -/
theorem run_storeVar {t : TypeId} {b off : Nat} {arr : Array Value} {e : TypeId} (hh : w.heap[b]? = some (.cells arr e (0, 0))) {v : Value} {vs : List Value} (hv : v.cells.toList = vs) (hl : vs.length = P.cellsOf t) (hz : P.cellsOf t ≠ 0)
    (hfit : off + vs.length ≤ arr.size) (h1 : ∀ u ∈ vs, u.oneCell' = true) : (storeVar t ⟨b, off, none⟩ v).run P w = .ok () (w.setRow b (setRange arr.toList off vs).toArray) := by
  have hs := run_storeCells_at P b off e vs 0 arr w hh (by simpa using hfit) h1
  simp only [Nat.add_zero] at hs
  have hsz : v.cells.size = P.cellsOf t := by rw [← hl, ← hv]; simp
  simp only [storeVar, Sem.run_bind, run_sizeOf' hz, Result.andThen_ok, hsz]
  simp only [ne_eq, not_true_eq_false, if_false, hv, hs]
  simp [setRange, hs]
end Go.Vi
/- The operations that write memory or make variables. -/
namespace Go.Vi
set_option linter.unusedVariables false
set_option linter.unusedSimpArgs false
variable {P : Program} {orc : Orc} {C : Ct} {nt : Nat} {σ σ' : St} {w w' : World} {Im Im' Pn : Nat → Prop} {D D' : Nat → SD} {own own' : Nat → Option Tag} {a : Act} {lg : List Ac}

theorem fixLf_ok {k : Kd} {l : Lf} {v : Value} (h : TLeaf w Im C.Pn σ D l v) : TLeaf w Im C.Pn σ D (fixLf k l) v := by
  unfold fixLf
  split
  · exact h.1
  · exact h.1
  · exact h
theorem fixLs_ok : ∀ {ks : List Kd} {ls : List Lf} {vs : List Value}, All2 (TLeaf w Im C.Pn σ D) ls vs → All2 (TLeaf w Im C.Pn σ D) (fixLs ks ls) vs
  | [], [], [], _ => trivial
  | [], _ :: _, _ :: _, h => h
  | _ :: _, [], [], _ => trivial
  | k :: ks, l :: ls, v :: vs, h => ⟨fixLf_ok h.1, fixLs_ok h.2⟩
  | [], [], _ :: _, h => h.elim
  | [], _ :: _, [], h => h.elim
  | _ :: _, [], _ :: _, h => h.elim
  | _ :: _, _ :: _, [], h => h.elim
theorem fix_ok {ks : List Kd} {u : V} {v : Value} (h : VOk w Im C.Pn σ D u v) : VOk w Im C.Pn σ D (u.fix ks) v := by
  cases u with
  | one l =>
    have h1 : All2 (TLeaf w Im C.Pn σ D) (fixLs ks [l]) [v] := fixLs_ok ⟨h, trivial⟩
    simp only [V.fix]
    split
    · rename_i l' e; rw [e] at h1; exact h1.1
    · exact h
  | agg ls =>
    obtain ⟨vs, h1, h2⟩ := h
    exact ⟨vs, h1, fixLs_ok h2⟩
  | tup us => exact h
  | slot _ _ => exact h
theorem VOk.cells {u : V} {v : Value} (h : VOk w Im C.Pn σ D u v) (h0 : u.leaves ≠ []) : ∃ vs, All2 (TLeaf w Im C.Pn σ D) u.leaves vs ∧ ((∀ x ∈ vs, x.oneCell' = true) → v.cells.toList = vs) := by
  cases u with
  | one l =>
    refine ⟨[v], ⟨h, trivial⟩, fun h1 => ?_⟩
    have := h1 v (by simp)
    cases v <;> first | rfl | (simp [Value.oneCell'] at this)
  | agg ls =>
    obtain ⟨vs, h1, h2⟩ := h
    exact ⟨vs, h2, fun _ => by rw [h1]; simp [Value.cells]⟩
  | tup us => simp [V.leaves] at h0
  | slot _ _ => simp [V.leaves] at h0
theorem ones_get {l : List Value} (h : ones l = true) : ∀ v ∈ l, v.oneCell' = true := by
  induction l with
  | nil => intro v hv; cases hv
  | cons x r ih =>
    have : x.oneCell' = true ∧ ones r = true := by cases x <;> first | (simp [ones] at h; done) | (simp only [ones] at h; exact ⟨rfl, h⟩)
    intro v hv
    rcases List.mem_cons.1 hv with rfl | hv
    · exact this.1
    · exact ih this.2 v hv
theorem ones_sc {l : List Value} (h : ∀ v ∈ l, v.oneCell' = true) : All2 (TLeaf w Im C.Pn σ D) (l.map .sc) l := by
  induction l with
  | nil => trivial
  | cons x r ih => exact ⟨⟨rfl, h x (by simp)⟩, ih fun v hv => h v (by simp [hv])⟩
theorem zeroL_ok {t : TypeId} {ls : List Lf} (h : zeroL P t = some ls) : ∃ i z, P.info? t = some i ∧ i.zero = some z ∧ All2 (TLeaf w Im C.Pn σ D) ls z.cells.toList := by
  unfold zeroL at h
  split at h
  · rename_i i k hi hk
    split at h
    · rename_i z hz
      split at h
      · rename_i ho
        cases h
        exact ⟨i, z, hi, hz, fixLs_ok (ones_sc (ones_get ho))⟩
      · cases h
    · cases h
  · cases h
theorem exec_u {s : Sem Unit} (h : s.run P w = .ok () w') : (do s; pure Next.skip : Sem Next).run P w = .ok .skip w' := by
  rw [Sem.run_bind, h]; rfl

theorem LeafOk.nodup {l : Lf} {v : Value} {f : List Nat} (h : LeafOk w Im Pn l v f) : f.Nodup := by
  cases l with
  | sc u => rw [h.2.2]; exact List.nodup_nil
  | lst m e k xs =>
    cases m with
    | own => obtain ⟨_, _, _, _, _, hn⟩ := h; exact hn
    | frz => rw [h.1]; exact List.nodup_nil
    | pin => rw [h.1]; exact List.nodup_nil
  | undef => rw [h.2]; exact List.nodup_nil
  | _ => exact h.elim
theorem Taken.nodup : ∀ {ls : List Lf} {vs : List Value} {fs : List (List Nat)} {n : Nat}, Taken w Im Pn own n ls vs fs → fs.flatten.Nodup ∧ ∀ b ∈ fs.flatten, ∃ m, n ≤ m ∧ own b = some (.fl m)
  | [], [], [], n, _ => ⟨by simp, fun b hb => by simp at hb⟩
  | l :: ls, v :: vs, f :: fs, n, h => by
    obtain ⟨h1, h2⟩ := Taken.nodup h.2
    refine ⟨?_, fun b hb => ?_⟩
    · rw [List.flatten_cons]
      refine List.nodup_append.2 ⟨h.1.1.nodup, h1, fun x hx z hz e => ?_⟩
      subst e
      obtain ⟨m, hm1, hm2⟩ := h2 x hz
      rw [h.1.2 x hx] at hm2
      cases hm2
      omega
    · rw [List.flatten_cons] at hb
      rcases List.mem_append.1 hb with hb | hb
      · exact ⟨n, Nat.le_refl _, h.1.2 b hb⟩
      · obtain ⟨m, hm1, hm2⟩ := h2 b hb
        exact ⟨m, by omega, hm2⟩
  | [], [], _ :: _, _, h => h.elim
  | [], _ :: _, _, _, h => h.elim
  | _ :: _, [], _, _, h => h.elim
  | _ :: _, _ :: _, [], _, h => h.elim
theorem sublist_flatten {a b : List (List Nat)} (h : a.Sublist b) : a.flatten.Sublist b.flatten := by
  induction h with
  | slnil => exact List.Sublist.refl _
  | cons x _ ih => rw [List.flatten_cons]; exact ih.trans (List.sublist_append_right _ _)
  | cons_cons x _ ih => rw [List.flatten_cons, List.flatten_cons]; exact List.Sublist.append (List.Sublist.refl _) ih
theorem nodup_setRange {gs fs : List (List Nat)} {p : Nat} (h1 : gs.flatten.Nodup) (h2 : fs.flatten.Nodup) (h3 : ∀ b ∈ gs.flatten, b ∉ fs.flatten) : (setRange gs p fs).flatten.Nodup := by
  unfold setRange
  rw [List.flatten_append, List.flatten_append]
  have hsp : gs.flatten = (gs.take p).flatten ++ (gs.drop p).flatten := by rw [← List.flatten_append, List.take_append_drop]
  have hd : ∀ b ∈ (gs.drop (p + fs.length)).flatten, b ∈ (gs.drop p).flatten := by
    intro b hb
    obtain ⟨f, hf, hb⟩ := List.mem_flatten.1 hb
    refine List.mem_flatten.2 ⟨f, ?_, hb⟩
    rw [← List.drop_drop] at hf
    exact List.mem_of_mem_drop hf
  have hsub : ((gs.drop (p + fs.length)).flatten).Sublist (gs.drop p).flatten := by
    rw [← List.drop_drop]
    exact sublist_flatten (List.drop_sublist _ _)
  rw [hsp] at h1 h3
  obtain ⟨a1, a2, a3⟩ := List.nodup_append.1 h1
  refine List.nodup_append.2 ⟨List.nodup_append.2 ⟨a1, h2, fun x hx z hz e => h3 x (List.mem_append_left _ hx) (e ▸ hz)⟩, a2.sublist hsub, fun x hx z hz e => ?_⟩
  subst e
  rcases List.mem_append.1 hx with hx | hx
  · exact a3 x hx x (hd x hz) rfl
  · exact h3 x (List.mem_append_right _ (hd x hz)) hx
theorem ok_store {o : Oper} {t : TypeId} {x y : Operand} (ho : o.op = .store t x y) {cx : Cx} (hP : cx.P = P) (hm : RM C σ w Im D own) (ht : RT C nt σ w Im D a) (hfl : ∀ b m, own b ≠ some (.fl m)) (h : Run orc (opM cx o) σ lg) : OpOk P C nt o a w (apps lg σ) := by
  subst hP
  unfold opM at h
  rw [ho] at h
  generalize hdst : o.dst = d at h
  cases d with
  | some d => cases h
  | none =>
    obtain ⟨va, lg1, h1, e1, k1⟩ := valM_run ht h
    obtain ⟨vx, lg2, h2, e2, k2⟩ := valM_run ht h1
    rw [e1, e2]
    have k2 := fix_ok (ks := leafsOf cx.P t) k2
    generalize V.fix (leafsOf cx.P t) vx = vx at h2 k2
    have fin : ∀ {σ'' : St} {w'' : World}, (storeVar t (match a.eval x with | .pointer (some A) => A | _ => default) (a.eval y)).run cx.P w = .ok () w'' → (∃ A, a.eval x = .pointer (some A)) → R C nt σ'' a w'' → OpOk cx.P C nt o a w σ'' := by
      intro σ'' w'' hs hA hr
      obtain ⟨A, hA⟩ := hA
      rw [hA] at hs
      refine .skip (w' := w'') (by simp only [execOp, ho, Instr.storeAt, hA, Instr.sureAddr]; exact exec_u (by simpa using hs)) ?_
      rw [hdst]
      exact hr
    unfold storeM at h2
    dsimp only at h2
    split at h2
    · -- a variable
      rename_i id off
      split at h2
      · rename_i hl
        simp only [Bool.and_eq_true, decide_eq_true_eq, bne_iff_ne] at hl
        obtain ⟨vs, hall, hcells⟩ := k2.cells (fun e => by rw [e] at hl; exact hl.2 hl.1.symm)
        obtain ⟨ls', lg3, σ1, Im1, D1, own1, fs, h3, e3, ext, htk⟩ := absorbs_ok _ 0 hm ht h2 hall
        rw [e3]
        cases h3 with
        | rd h3 =>
          generalize hs : σ1.get (2 * id + 1) = q at h3
          cases q with
          | none => cases h3
          | some u =>
            cases u with
            | slot virt cs =>
              cases virt with
              | true => cases h3
              | false =>
                dsimp only at h3
                split at h3
                · rename_i hfit
                  cases h3 with
                  | wr h3 =>
                    obtain ⟨lg4, h4, e4⟩ := killsM_run ls' off (ext.rm.asc.set _ _) h3
                    cases h4 with
                    | ret =>
                      obtain ⟨t1, t2, _⟩ := htk.get
                      have hlv : vs.length = cx.P.cellsOf t := by rw [← hall.length]; exact hl.1
                      have hfit' : off + ls'.length ≤ cs.length := by omega
                      obtain ⟨cs0, hg0, hl0, _⟩ := ext.od id false cs hs
                      have hx : a.eval x = .pointer (some ⟨(D id).b, off, none⟩) := k1 cs0 hg0
                      obtain ⟨w2, hw2, hm2, hother⟩ := RM.setBox ext.rm hs htk hfit'
                      have hsl := (ext.rm.slot id false cs hs).1
                      obtain ⟨e, he⟩ := hsl.box rfl
                      have hdb := (ext.db id).1
                      have hrun := run_storeVar (P := cx.P) (w := w) (t := t) (off := off) he (hcells (htk.l3.one)) hlv hl.2 (by simp [hsl.vlen]; omega) htk.l3.one
                      have hrt := RT.setBox ext.rm ext.rt (off := off) hs hfit' (vs := vs) (fs := setRange (D1 id).fs off fs) t1 hother
                      have hrm := hm2.kills (id := id) (killsOf id off ls')
                      refine fin (w'' := w2) ?_ ⟨_, hx⟩ ?_
                      · rw [hx]
                        simp only []
                        rw [← hdb, hw2]
                        simpa using hrun
                      · refine Eq.subst (motive := fun s => R C nt s a w2) e4.symm ?_
                        exact ⟨Im1, _, _, hrm, hrt⟩
                · cases h3
            | _ => cases h3
      · cases h2
    · -- an element
      rename_i id off i p
      split at h2
      · rename_i hl
        simp only [Bool.and_eq_true, decide_eq_true_eq, bne_iff_ne] at hl
        obtain ⟨vs, hall, hcells⟩ := k2.cells (fun e => by rw [e] at hl; exact hl.2 hl.1.symm)
        obtain ⟨ls', lg3, σ1, Im1, D1, own1, fs, h3, e3, ext, htk⟩ := absorbs_ok _ 0 hm ht h2 hall
        rw [e3]
        obtain ⟨virt, cs, m, e, k, xs, lg4, hg, hlf, hp, h4, e4⟩ := listM_run h3
        rw [e4]
        cases m with
        | pin => cases h4
        | frz => cases h4
        | own =>
          dsimp only at h4
          generalize hx : xs[i]? = q at h4
          cases h4 with
          | opt h4 =>
            rename_i xe
            dsimp only at h4
            generalize hy : ofL k (setRange (toL .own k xe) p ls') = q at h4
            cases h4 with
            | opt h4 =>
              rename_i ye
              split at h4
              · rename_i hfit
                cases h4 with
                | upd hg' hl' h5 =>
                  rw [hg] at hg'
                  cases hg'
                  cases h5 with
                  | ret =>
                    obtain ⟨t1, t2, _⟩ := htk.get
                    have hlv : vs.length = cx.P.cellsOf t := by rw [← hall.length]; exact hl.1
                    obtain ⟨v, f, d1, d2, d3, d4⟩ := ext.rm.leaf hg hlf
                    obtain ⟨g, c, cur, fss, fx, hel⟩ := Own.elemAt d3 hx
                    obtain ⟨cs0, hg0, hl0, hof0⟩ := ext.od id virt cs hg
                    have hlf0 : cs0[off]? = some (.lst .own e k xs) := by
                      rcases hof0 off _ hlf with h' | h' | ⟨_, _, _, h', _⟩
                      · exact h'
                      · cases h'
                      · cases h'
                    obtain ⟨b, p', n', c', q1, q2⟩ := k1 virt cs0 .own e k xs hg0 hlf0 (by simp) (List.getElem?_eq_some_iff.1 hx).1
                    have hdv : (D1 id).vs[off]? = (D id).vs[off]? := by rw [(ext.db id).2]
                    have hbg : b = g ∧ p' = 0 := by
                      rw [hdv, q1, hel.hv] at d1
                      cases d1
                      exact ⟨rfl, rfl⟩
                    obtain ⟨rfl, rfl⟩ := hbg
                    have hi : i < xs.length := (List.getElem?_eq_some_iff.1 hx).1
                    have hin : i * k.w + k.w ≤ cur.size := by
                      have h1 := Nat.mul_le_mul_right k.w (show i + 1 ≤ xs.length from hi)
                      rw [Nat.add_mul, Nat.one_mul] at h1
                      have h2 := Nat.mul_le_mul_right k.w hel.hc
                      rw [hel.hs]
                      omega
                    have hwfit : p + vs.length ≤ k.w := by omega
                    have hone : ∀ u ∈ vs, u.oneCell' = true := htk.l3.one
                    have hrun := run_storeVar (P := cx.P) (w := w) (t := t) (off := 0 + i * k.w + p) hel.hh (hcells hone) hlv hl.2 (by omega) hone
                    have hgo : own1 b = some (.leaf id off) := d4 b (by rw [hel.hf]; exact List.mem_cons_self)
                    have hgim : ¬ Im1 b := (ext.rm.ow b _ hgo).1
                    have hgnx : b ∉ fss.flatten := by have := hel.hn; rw [hel.hf] at this; exact (List.nodup_cons.1 this).1
                    have hfxs : ∀ z ∈ fx, z ∈ fss.flatten := fun z hz => List.mem_flatten.2 ⟨fx, List.mem_of_getElem? hel.hx, hz⟩
                    have hother : ∀ z, z ≠ b → (w.setRow b (setRange cur.toList (i * k.w + p) vs).toArray).heap[z]? = w.heap[z]? := fun z hz => setRow_other w b z _ hz
                    obtain ⟨gs, l1, l2⟩ := toL_l3 (Pn := C.Pn) hel.hrep
                    have hflb : ∀ f' ∈ fs, ∀ z ∈ f', z ≠ b := fun f' hf' z hz e' => by
                      subst e'
                      obtain ⟨m', hm'⟩ := htk.fl f' hf' z hz
                      rw [hgo] at hm'; cases hm'
                    have l3 := (l1.setRange htk.l3 p).imp (w' := w.setRow b (setRange cur.toList (i * k.w + p) vs).toArray) (fun z hz => hother z fun e' => hgim (e' ▸ hz)) (fun _ h => h) (fun z hz => hother z fun e' => hgim (e' ▸ ext.rm.pnim z hz)) (fun f' hf' z hz => hother z fun e' => by
                      subst e'
                      unfold setRange at hf'
                      rcases List.mem_append.1 hf' with hf' | hf'
                      · rcases List.mem_append.1 hf' with hf' | hf'
                        · exact hgnx (hfxs _ (by rw [← l2]; exact List.mem_flatten.2 ⟨f', List.mem_of_mem_take hf', hz⟩))
                        · exact hflb f' hf' _ hz rfl
                      · exact hgnx (hfxs _ (by rw [← l2]; exact List.mem_flatten.2 ⟨f', List.mem_of_mem_drop hf', hz⟩)))
                    obtain ⟨fy, fr, r1, r2, r3, r4⟩ := ofL_ok ext.rm.pnim k hy l3
                    have hcl : ∀ z ∈ (setRange gs p fs).flatten, z ∈ fx ∨ ∃ m', own1 z = some (.fl m') := by
                      intro z hz
                      obtain ⟨f', hf', hz'⟩ := List.mem_flatten.1 hz
                      unfold setRange at hf'
                      rcases List.mem_append.1 hf' with hf' | hf'
                      · rcases List.mem_append.1 hf' with hf' | hf'
                        · exact .inl (by rw [← l2]; exact List.mem_flatten.2 ⟨f', List.mem_of_mem_take hf', hz'⟩)
                        · exact .inr (htk.fl f' hf' z hz')
                      · exact .inl (by rw [← l2]; exact List.mem_flatten.2 ⟨f', List.mem_of_mem_drop hf', hz'⟩)
                    have hnd : (setRange gs p fs).flatten.Nodup := by
                      have hn := hel.hn
                      rw [hel.hf] at hn
                      have hfn := (List.nodup_cons.1 hn).2
                      refine nodup_setRange ?_ htk.nodup.1 fun z hz hz' => ?_
                      · rw [l2]
                        exact hfn.sublist (by
                          have := sublist_flatten (List.singleton_sublist.2 (List.mem_of_getElem? hel.hx))
                          simpa using this)
                      · rw [l2] at hz
                        obtain ⟨m', _, hm'⟩ := htk.nodup.2 z hz'
                        rw [d4 z (by rw [hel.hf]; exact List.mem_cons_of_mem _ (hfxs z hz))] at hm'
                        cases hm'
                    obtain ⟨r5, r6⟩ := r4 hnd
                    obtain ⟨m1, m2, m3⟩ := RM.setElem ext.rm ext.rt hg hlf d1 d2 d4 hx hel hwfit hone (tg := none) r1 r5 (fun z hz => hcl z (r2 z hz)) (fun z hz => hcl z (r3 z hz)) r6 (fun t ht => by cases ht)
                    refine fin (w'' := w.setRow b (setRange cur.toList (i * k.w + p) vs).toArray) ?_ ⟨_, q2⟩ ?_
                    · rw [q2]
                      simpa using hrun
                    · exact ⟨_, _, _, m1, m2⟩
              · cases h4
      · cases h2
    · cases h2
end Go.Vi
/- Loads that take a list out of its element; new variables; plain values. -/
namespace Go.Vi
set_option linter.unusedVariables false
set_option linter.unusedSimpArgs false
variable {P : Program} {orc : Orc} {C : Ct} {nt : Nat} {σ σ' : St} {w w' : World} {Im Im' Pn : Nat → Prop} {D D' : Nat → SD} {own own' : Nat → Option Tag} {a : Act} {lg : List Ac}

theorem fresh_of_even (h : ∀ t, σ'.get (2 * t) = σ.get (2 * t)) {d : Nat} (hf : σ.fresh d) : σ'.fresh d := fun t u hu => hf t u (by rw [← h t]; exact hu)
theorem packC_one {t : TypeId} (h : isAggT P t = false) (v : Value) : packC P t [v] = v := by simp [packC, h]
theorem ok_load {o : Oper} {t : TypeId} {x : Operand} (ho : o.op = .load t x) {cx : Cx} (hP : cx.P = P) (hd : dOk C nt o.dst) (hf : ∀ d, o.dst = some d → σ.fresh d) (hm : RM C σ w Im D own) (ht : RT C nt σ w Im D a) (hfl : ∀ b m, own b ≠ some (.fl m)) (h : Run orc (opM cx o) σ lg) :
    OpOk P C nt o a w (apps lg σ) := by
  unfold opM at h
  rw [ho] at h
  obtain ⟨v, lg1, h1, e1, k1⟩ := valM_run ht h
  rw [e1]
  have other : ∀ {l}, Run orc (loadM cx o.dst t v) σ l → OpOk P C nt o a w (apps l σ) := fun hr => ok_load' ho hP hd hm ht k1 hr
  subst hP
  unfold loadOwM at h1
  split at h1
  · rename_i id off i d hdst
    split at h1
    · exact other h1
    · rename_i hty
      simp only [Bool.or_eq_true, Bool.not_eq_true', not_or, Bool.not_eq_true, Bool.not_eq_false] at hty
      obtain ⟨hagg, hld⟩ := hty
      obtain ⟨t1, t2, t3⟩ := ldT_ok hld
      obtain ⟨virt, cs, m, e, k, xs, lg2, hg, hl, hp, h2, e2⟩ := listM_run h1
      cases k with
      | ow e2' k2 =>
        dsimp only at h2
        -- the element and where it lies
        have common : ∀ {ys : List k2.T}, xs[i]? = some (some ys) → ∃ b p n' c' cs' g, a.eval x = .pointer (some ⟨b, p + i * 1 + 0, none⟩) ∧ (D id).vs[off]? = some (.slice (some ⟨b, p, none⟩) n' c') ∧ CellsAt w ⟨b, p + i * 1, none⟩ cs' ∧ RepK w Im (.ow e2' k2) (some ys) cs' g := by
          intro ys hx
          obtain ⟨b, p, n', c', q1, q2⟩ := k1 virt cs m e (.ow e2' k2) xs hg hl hp (List.getElem?_eq_some_iff.1 hx).1
          obtain ⟨cs', g, r1, r2, r3⟩ := hm.leafElem hg hl q1 hx
          exact ⟨b, p, n', c', cs', g, q2, q1, r1, r3⟩
        cases m with
        | pin => exact absurd rfl hp
        | frz =>
          dsimp only at h2
          generalize hx : xs[i]? = q at h2
          cases h2 with
          | opt h2 =>
            rename_i y
            dsimp only at h2
            cases h2 with
            | opt h2 =>
              rename_i ys
              cases h2 with
              | wr h2 => cases h2 with
                | ret =>
                  obtain ⟨v0, f0, d1, d2, d3, d4⟩ := hm.leaf hg hl
                  obtain ⟨b, p, n', c', q1, q2⟩ := k1 virt cs .frz e (.ow e2' k2) xs hg hl hp (List.getElem?_eq_some_iff.1 hx).1
                  have hv0 : v0 = .slice (some ⟨b, p, none⟩) n' c' := by rw [q1] at d1; cases d1; rfl
                  obtain ⟨cs', g, r1, r2, r3, r4, r5, _⟩ := Frz.elem d3.2 hv0 hx
                  simp only [RepK] at r3
                  obtain ⟨u, rfl, r6, r7⟩ := r3
                  have hfz : Frz w Im k2 ys u := Own.frz r7 (fun _ h => h) r4
                  have hrun := run_loadVar (w := w) t1 r1 (by rw [t3 hagg]; rfl) (fun _ => rfl) t2
                  rw [packC_one hagg] at hrun
                  have hx' : a.eval x = .pointer (some ⟨b, p + i * 1, none⟩) := q2
                  refine .value (cv := u) (by simp only [execOp, ho, hx', Instr.loadAt, Instr.sureAddr]; exact exec_v (by simpa [Kd.w] using hrun)) ?_
                  rw [e2, hdst]
                  exact R.put hm ht (hd d hdst) hfz
        | own =>
          dsimp only at h2
          generalize hx : xs[i]? = q at h2
          cases h2 with
          | opt h2 =>
            rename_i y
            dsimp only at h2
            cases h2 with
            | opt h2 =>
              rename_i ys
              dsimp only at h2
              cases h2 with
              | upd hg' hl' h2 =>
                rw [hg] at hg'
                cases hg'
                cases h2 with
                | wr h2 => cases h2 with
                  | wr h2 => cases h2 with
                    | ret =>
                      obtain ⟨v0, f0, d1, d2, d3, d4⟩ := hm.leaf hg hl
                      obtain ⟨g, c, cur, fss, fx, hel⟩ := Own.elemAt d3 hx
                      obtain ⟨b, p, n', c', q1, q2⟩ := k1 virt cs .own e (.ow e2' k2) xs hg hl hp (List.getElem?_eq_some_iff.1 hx).1
                      have hbg : b = g ∧ p = 0 := by rw [q1, hel.hv] at d1; cases d1; exact ⟨rfl, rfl⟩
                      obtain ⟨rfl, rfl⟩ := hbg
                      have hrep := hel.hrep
                      have hwk : (Kd.ow e2' k2).w = 1 := rfl
                      rw [hwk] at hrep
                      simp only [RepK] at hrep
                      obtain ⟨u, hcu, r6, r7⟩ := hrep
                      have hfn : fx.Nodup := by obtain ⟨_, _, _, _, _, hn⟩ := r7; exact hn
                      have hrow : w.setRow b (setRange cur.toList (i * (Kd.ow e2' k2).w + 0) ([] : List Value)).toArray = w := by
                        have : setRange cur.toList (i * (Kd.ow e2' k2).w + 0) ([] : List Value) = cur.toList := by simp [setRange]
                        rw [this]
                        simpa using setRow_self w b cur e (0, 0) hel.hh
                      have hse := RM.setElem hm ht hg hl d1 d2 d4 hx hel (o := 0) (news := []) (by simp) (by simp) (y := (none : Option (List k2.T))) (fy := []) (fr := []) (tg := some (.fl 0)) (by
                        rw [hrow]
                        simp only [RepK]
                        refine ⟨u, ?_, r6, trivial⟩
                        rw [hwk, hcu]
                        simp [setRange]) List.nodup_nil (by simp) (by simp) (by simp) (fun t ht => by cases ht; exact ⟨0, rfl⟩)
                      rw [hrow] at hse
                      obtain ⟨m1, m2, _⟩ := hse
                      have hcell : CellsAt w ⟨b, 0 + i * 1, none⟩ [u] := ⟨rfl, fun j z hz => by
                        rw [cell_at hel.hh]
                        have hz' : ((cur.toList.drop (i * 1)).take 1)[j]? = some z := by rw [hcu]; exact hz
                        rw [List.getElem?_take] at hz'
                        split at hz'
                        · rw [List.getElem?_drop] at hz'
                          simpa using hz'
                        · cases hz'⟩
                      have hrun := run_loadVar (w := w) t1 hcell (by rw [t3 hagg]; rfl) (fun _ => rfl) t2
                      rw [packC_one hagg] at hrun
                      have hx' : a.eval x = .pointer (some ⟨b, 0 + i * 1, none⟩) := q2
                      refine .value (cv := u) (by simp only [execOp, ho, hx', Instr.loadAt, Instr.sureAddr]; exact exec_v (by simpa using hrun)) ?_
                      rw [e2, hdst]
                      have hfr : (σ.set (2 * id + 1) (some (.slot virt (cs.set off (.lst .own e (.ow e2' k2) (xs.set i none)))))).fresh d := fresh_of_even (fun t => St.get_set_ne σ _ (by omega)) (hf d hdst)
                      have hown : Own w (fun b => Im b ∨ b ∈ ([] : List Nat)) e2' k2 ys u fx := Own.imp (fun _ _ => rfl) (fun _ => .inl) (fun _ _ => rfl) r7
                      exact R.newList m1 m2 (hd d hdst) hfr hown (n := 0) (fun z hz => by simp [newOwn, hz])
      | _ => exact (by dsimp only at h2; rw [e2]; exact other h2)
  · rename_i e2' k2 y d hdst
    split at h1
    · exact other h1
    · rename_i hty
      simp only [Bool.or_eq_true, Bool.not_eq_true', not_or, Bool.not_eq_true, Bool.not_eq_false] at hty
      obtain ⟨hagg, hld⟩ := hty
      obtain ⟨t1, t2, t3⟩ := ldT_ok hld
      cases h1 with
      | opt h1 =>
        rename_i ys
        cases h1 with
        | wr h1 => cases h1 with
          | ret =>
            obtain ⟨b, p, arr, e, fr, f, q1, q2, q3, q4, q5⟩ := k1
            simp only [RepK] at q4
            obtain ⟨u, hcu, r6, r7⟩ := q4
            have hfz : Frz w Im k2 ys u := Own.frz r7 (fun _ h => h) q5
            have hcell : CellsAt w ⟨b, p, none⟩ [u] := ⟨rfl, fun j z hz => by
              rw [cell_at q2]
              have hz' : ((arr.toList.drop p).take 1)[j]? = some z := by rw [show (arr.toList.drop p).take 1 = [u] from hcu]; exact hz
              rw [List.getElem?_take] at hz'
              split at hz'
              · rw [List.getElem?_drop] at hz'
                exact hz'
              · cases hz'⟩
            have hrun := run_loadVar (w := w) t1 hcell (by rw [t3 hagg]; rfl) (fun _ => rfl) t2
            rw [packC_one hagg] at hrun
            have hx' : a.eval x = .pointer (some ⟨b, p, none⟩) := q1
            refine .value (cv := u) (by simp only [execOp, ho, hx', Instr.loadAt, Instr.sureAddr]; exact exec_v (by simpa using hrun)) ?_
            rw [hdst]
            exact R.put hm ht (hd d hdst) hfz
  · exact other h1
theorem ok_box {o : Oper} {t : TypeId} {x : Operand} (ho : o.op = .box t x) {cx : Cx} (hP : cx.P = P) (hd : dOk C nt o.dst) (hf : ∀ d, o.dst = some d → σ.fresh d) (hm : RM C σ w Im D own) (ht : RT C nt σ w Im D a) (h : Run orc (opM cx o) σ lg) : OpOk P C nt o a w (apps lg σ) := by
  subst hP
  unfold opM at h
  rw [ho] at h
  generalize hdst : o.dst = q at h
  cases q with
  | none => cases h
  | some d =>
    obtain ⟨vx, lg1, h1, e1, k1⟩ := valM_run ht h
    rw [e1]
    have k1 := fix_ok (ks := leafsOf cx.P t) k1
    generalize V.fix (leafsOf cx.P t) vx = vx at h1 k1
    by_cases h0 : vx.leaves = []
    · rw [h0] at h1
      simp only [absorbsM] at h1
      split at h1
      · rename_i hl
        simp only [Bool.and_eq_true, decide_eq_true_eq, bne_iff_ne, List.length_nil] at hl
        exact absurd hl.1.symm hl.2
      · cases h1
    · obtain ⟨vs, hall, hcells⟩ := k1.cells h0
      obtain ⟨ls', lg3, σ1, Im1, D1, own1, fs, h3, e3, ext, htk⟩ := absorbs_ok _ 0 hm ht h1 hall
      rw [e3]
      split at h3
      · rename_i hl
        cases h3 with
        | wr h3 => cases h3 with
          | wr h3 => cases h3 with
            | ret =>
              have hv := hcells htk.l3.one
              have hrun : (Instr.box t (a.eval x)).run cx.P w = .ok (.pointer (some ⟨w.heap.size, 0, none⟩)) (w.alloc (.cells vs.toArray t)) := by
                have : (a.eval x).cells = vs.toArray := by rw [← hv]
                simp [Instr.box, newVar, newRow, this]
              refine .value (w' := w.alloc (.cells vs.toArray t)) (by simp only [execOp, ho]; exact exec_v hrun) ?_
              rw [hdst]
              exact R.newBox ext.rm ext.rt (hd d hdst) (fresh_of_even ext.ev (hf d hdst)) htk t
      · cases h3
theorem ok_alloc {o : Oper} {t : TypeId} (ho : o.op = .alloc t) {cx : Cx} (hP : cx.P = P) (hd : dOk C nt o.dst) (hf : ∀ d, o.dst = some d → σ.fresh d) (hm : RM C σ w Im D own) (ht : RT C nt σ w Im D a) (h : Run orc (opM cx o) σ lg) : OpOk P C nt o a w (apps lg σ) := by
  subst hP
  unfold opM at h
  rw [ho] at h
  dsimp only at h
  generalize hdst : o.dst = q at h
  cases q with
  | none => cases h
  | some d =>
    cases hz : zeroL cx.P t with
    | none => rw [hz] at h; cases h
    | some ls =>
      rw [hz] at h
      dsimp only at h
      obtain ⟨i, z, hi, hz', hall⟩ := zeroL_ok (w := w) (Im := Im) (C := C) (σ := σ) (D := D) hz
      obtain ⟨ls', lg3, σ1, Im1, D1, own1, fs, h3, e3, ext, htk⟩ := absorbs_ok _ 0 hm ht h hall
      rw [e3]
      cases h3 with
      | wr h3 => cases h3 with
        | wr h3 => cases h3 with
          | ret =>
            have hrun : (Instr.alloc t true (.tuple #[])).run cx.P w = .ok (.pointer (some ⟨w.heap.size, 0, none⟩)) (w.alloc (.cells z.cells.toList.toArray t)) := by
              simp [Instr.alloc, zeroValue, typeInfo, hi, hz', newVar, newRow]
            refine .value (w' := w.alloc (.cells z.cells.toList.toArray t)) (by simp only [execOp, ho]; exact exec_v hrun) ?_
            rw [hdst]
            exact R.newBox ext.rm ext.rt (hd d hdst) (fresh_of_even ext.ev (hf d hdst)) htk t
theorem ok_extract {o : Oper} {x : Operand} {i : Nat} (ho : o.op = .extract x i) {cx : Cx} (hd : dOk C nt o.dst) (hm : RM C σ w Im D own) (ht : RT C nt σ w Im D a) (h : Run orc (opM cx o) σ lg) : OpOk P C nt o a w (apps lg σ) := by
  unfold opM at h
  rw [ho] at h
  obtain ⟨v, lg1, h1, e1, k1⟩ := valM_run ht h
  rw [e1]
  cases v with
  | tup us =>
    obtain ⟨vs, hv, hall⟩ := k1
    unfold extractV at h1
    dsimp only at h1
    cases hu : us[i]? with
    | none => rw [hu] at h1; cases h1
    | some p =>
      rw [hu] at h1
      obtain ⟨b, ls⟩ := p
      obtain ⟨u, hu', hp⟩ := hall.get hu
      have hrun : (Instr.extract (a.eval x) i).run P w = .ok u w := by
        rw [hv]
        simp [Instr.extract, hu']
      cases b with
      | true =>
        exact .value (by simp only [execOp, ho]; exact exec_v hrun) (putM_ok hm ht hd h1 hp)
      | false =>
        obtain ⟨l, h2, h3⟩ := hp
        dsimp only at h2
        subst h2
        exact .value (by simp only [execOp, ho]; exact exec_v hrun) (putM_ok hm ht hd h1 h3)
  | _ => cases h1
theorem All2.toArray_extract {ls : List Lf} {vs : List Value} (h : All2 (TLeaf w Im C.Pn σ D) ls vs) (n m : Nat) : (vs.toArray.extract n (n + m)) = ((vs.drop n).take m).toArray := by
  apply Array.ext'
  simp [List.extract_eq_take_drop]
theorem ok_field {o : Oper} {t : TypeId} {x : Operand} {i : Nat} (ho : o.op = .field t x i) {cx : Cx} (hP : cx.P = P) (hd : dOk C nt o.dst) (hm : RM C σ w Im D own) (ht : RT C nt σ w Im D a) (h : Run orc (opM cx o) σ lg) : OpOk P C nt o a w (apps lg σ) := by
  subst hP
  unfold opM at h
  rw [ho] at h
  obtain ⟨v, lg1, h1, e1, k1⟩ := valM_run ht h
  rw [e1]
  cases v with
  | agg ls =>
    obtain ⟨vs, hv, hall⟩ := k1
    unfold fieldV at h1
    dsimp only at h1
    cases hfi : (fieldsT cx.P t)[i]? with
    | none => rw [hfi] at h1; cases h1
    | some f =>
      rw [hfi] at h1
      dsimp only at h1
      split at h1
      · rename_i hl
        simp only [Bool.and_eq_true, decide_eq_true_eq] at hl
        obtain ⟨hl1, hl2⟩ := hl
        obtain ⟨h3, h4, h5⟩ := ldT_ok hl2
        obtain ⟨fs, hu, hfs⟩ := fieldsT_get hfi
        have hsub := (hall.drop f.offset).take (cx.P.cellsOf f.type)
        have hlen : ((vs.drop f.offset).take (cx.P.cellsOf f.type)).length = cx.P.cellsOf f.type := by rw [← hsub.length]; exact hl1
        have hrun : (Instr.field t (a.eval x) i).run cx.P w = .ok (packC cx.P f.type ((vs.drop f.offset).take (cx.P.cellsOf f.type))) w := by
          rw [hv]
          unfold okT at h3
          cases hud : cx.P.underlying f.type with
          | none => rw [hud] at h3; cases h3
          | some d =>
            rw [hud] at h3
            by_cases hs : isAggT cx.P f.type = true
            · have hdd : ∃ fs', d = .struct fs' := by
                unfold isAggT at hs
                rw [hud] at hs
                cases d <;> first | (simp at hs; done) | exact ⟨_, rfl⟩
              obtain ⟨fs', rfl⟩ := hdd
              simp only [Instr.field, Sem.run_bind, run_underlying hu, Result.andThen_ok, hfs, asAgg, part, isAgg, run_underlying hud, Sem.run_pure, if_true, run_sizeOf' h4]
              simp [packC, hs, List.extract_eq_take_drop]
            · have hs : isAggT cx.P f.type = false := by simpa using hs
              have hdd : (∀ fs, d ≠ .struct fs) ∧ (∀ n e, d ≠ .array n e) := by
                unfold isAggT at hs
                rw [hud] at hs
                constructor
                · intro fs e; subst e; simp at hs
                · intro n e he; subst he; simp at h3
              have hag : (isAgg f.type).run cx.P w = .ok false w := by
                unfold isAgg
                rw [Sem.run_bind, run_underlying hud]
                cases d <;> first | rfl | exact absurd rfl (hdd.1 _) | exact absurd rfl (hdd.2 _ _)
              have h1' := h5 hs
              rw [h1'] at hlen ⊢
              obtain ⟨u, hu1⟩ : ∃ u, (vs.drop f.offset).take 1 = [u] := by
                match (vs.drop f.offset).take 1, hlen with
                | [u], _ => exact ⟨u, rfl⟩
              have hget : vs[f.offset]? = some u := by
                have : ((vs.drop f.offset).take 1)[0]? = some u := by rw [hu1]; rfl
                simpa using this
              simp only [Instr.field, Sem.run_bind, run_underlying hu, Result.andThen_ok, hfs, asAgg, part, hag, Sem.run_pure]
              simp [hget, hu1, packC, hs]
        exact .value (by simp only [execOp, ho]; exact exec_v hrun) (putM_ok hm ht hd h1 (packV_ok hsub))
      · cases h1
  | _ => cases h1
end Go.Vi
/- Assignments, arithmetic, structs, indices, lengths. -/
namespace Go.Vi
set_option linter.unusedVariables false
set_option linter.unusedSimpArgs false
variable {P : Program} {orc : Orc} {C : Ct} {nt : Nat} {σ σ' : St} {w w' : World} {Im Im' Pn : Nat → Prop} {D D' : Nat → SD} {own own' : Nat → Option Tag} {a : Act} {lg : List Ac}

/-! ### States that read alike, and smaller ones -/
theorem RM.sub (hm : RM C σ w Im D own) (ha : σ'.Asc) (hs : ∀ id virt ls, σ'.get (2 * id + 1) = some (.slot virt ls) → σ.get (2 * id + 1) = some (.slot virt ls)) : RM C σ' w Im D own :=
  { hm with asc := ha, slot := fun id virt ls hg => hm.slot id virt ls (hs id virt ls hg) }
theorem RT.sub (hm : RM C σ w Im D own) (ht : RT C nt σ w Im D a) (he : ∀ t v, σ'.get (2 * t) = some v → σ.get (2 * t) = some v)
    (hs : ∀ id virt ls, σ'.get (2 * id + 1) = some (.slot virt ls) → σ.get (2 * id + 1) = some (.slot virt ls)) : RT C nt σ' w Im D a :=
  ht.imp (fun _ _ => rfl) (fun _ h => h) hm.pnim he fun t u id virt ls _ _ hg => ⟨ls, hs id virt ls hg, fun _ => rfl, fun off m e k xs _ hl hp => ⟨m, e, xs, hl, hp, Nat.le_refl _, rfl⟩⟩
theorem R.sub (h : R C nt σ a w) (ha : σ'.Asc) (hs : ∀ k v, σ'.get k = some v → σ.get k = some v) : R C nt σ' a w := by
  obtain ⟨Im, D, own, hm, ht⟩ := h
  exact ⟨Im, D, own, hm.sub ha fun id virt ls hg => hs _ _ hg, RT.sub hm ht (fun t v hg => hs _ _ hg) fun id virt ls hg => hs _ _ hg⟩
theorem R.sim (h : R C nt σ a w) (ha : σ'.Asc) (hs : σ.Sim σ') : R C nt σ' a w := h.sub ha fun k v hg => by rw [hs k]; exact hg

/-! ### Assignments -/
theorem ok_assign {o : Oper} {x : Operand} (ho : o.op = .assign x) {cx : Cx} (hP : cx.P = P) (hd : dOk C nt o.dst) (hf : ∀ d, o.dst = some d → σ.fresh d) (hm : RM C σ w Im D own) (ht : RT C nt σ w Im D a) (h : Run orc (opM cx o) σ lg) : OpOk P C nt o a w (apps lg σ) := by
  unfold opM at h
  rw [ho] at h
  obtain ⟨v, lg1, h1, e1, k1⟩ := valM_run ht h
  rw [e1]
  have k1 := fix_ok (ks := leafsOf cx.P o.type) k1
  generalize V.fix (leafsOf cx.P o.type) v = v at h1 k1
  have hrun : (execOp a.eval o).run P w = .ok (.value (a.eval x)) w := by simp only [execOp, ho]; rfl
  unfold assignM at h1
  split at h1
  · rename_i e k d hdst
    cases h1 with
    | wr h1 => cases h1 with
      | wr h1 => cases h1 with
        | ret =>
          have hv : a.eval x = .slice none 0 0 := k1
          refine .value hrun ?_
          rw [hdst, hv]
          exact R.newList hm ht (hd d hdst) (hf d hdst) (n := 0) (f := []) ⟨[], [], ⟨by simp, .inl ⟨rfl, rfl⟩⟩, ⟨by simp, rfl, fun i x hx => by simp at hx⟩, rfl, List.nodup_nil⟩ (fun _ hx => by cases hx)
  · rename_i id d hdst
    split at h1
    · cases h1 with
      | rd h1 =>
        generalize hg : σ.get (2 * id + 1) = q at h1
        dsimp only at h1
        split at h1
        · rename_i e k xs r
          split at h1
          · cases h1 with
            | wr h1 => cases h1 with
              | wr h1 => cases h1 with
                | wr h1 => cases h1 with
                  | ret =>
                    obtain ⟨v', f, D', own', t1, ext, t3, t4⟩ := take_own hm ht hg (i := 0) rfl 0
                    have hval : (D id).vs[0]? = some (a.eval x) := k1 true _ .own e k xs hg rfl (by simp)
                    have hvv : v' = a.eval x := by rw [hval] at t1; cases t1; rfl
                    subst hvv
                    have hdel : ∀ k' v'', (σ.set (2 * id + 1) none).get k' = some v'' → (σ.set (2 * id + 1) (some (.slot true ((Lf.lst .own e k xs :: r).set 0 .undef)))).get k' = some v'' := fun k' v'' hk => by
                      rw [St.get_set] at hk ⊢
                      split at hk
                      · cases hk
                      · rename_i hne; rw [if_neg hne]; exact hk
                    have hm2 := ext.rm.sub (hm.asc.set (2 * id + 1) none) (fun id virt ls hg => hdel _ _ hg)
                    have ht2 := RT.sub ext.rm ext.rt (fun t v hg => hdel _ _ hg) (fun id virt ls hg => hdel _ _ hg)
                    refine .value hrun ?_
                    rw [hdst]
                    exact R.newList hm2 ht2 (hd d hdst) (fresh_of_even (fun t => St.get_set_ne σ _ (by omega)) (hf d hdst)) t3 t4
          · cases h1
        · cases h1
    · refine .value hrun ?_
      rw [hdst]
      exact putM_ok hm ht (hdst ▸ hd) h1 k1
  · exact .value hrun (putM_ok hm ht hd h1 k1)

/-! ### Arithmetic -/
theorem binOp_exec {o : Oper} {op : BinOp} {t yt : TypeId} {x y : Operand} (ho : o.op = .binOp op t x y yt) {cv : Value} (h : (do eqGuard op t x y (a.eval x) (a.eval y); binOp op t (a.eval x) (a.eval y) : Sem Value).run P w = .ok cv w) :
    (execOp a.eval o).run P w = .ok (.value cv) w := by
  simp only [execOp, ho]
  exact exec_v h
theorem eqF_run (P : Program) (w : World) : ∀ (fs : List Field) (n d : Nat) (pu pv us vs : List Value) (b : Bool), eqF P n fs us vs = some b → pu.length = n → pv.length = n →
    (Op.eqFields (d + 1) (pu ++ us).toArray (pv ++ vs).toArray fs).run P w = .ok b w
  | [], n, d, pu, pv, us, vs, b, h, hu, hv => by
    cases us <;> cases vs <;> simp only [eqF] at h <;> cases h
    simp [Op.eqFields]
  | f :: r, n, d, pu, pv, us, vs, b, h, hu, hv => by
    cases us with
    | nil => simp [eqF] at h
    | cons u us =>
      cases vs with
      | nil => simp [eqF] at h
      | cons v vs =>
        simp only [eqF] at h
        split at h
        · rename_i hc
          simp only [Bool.and_eq_true, bne_iff_ne, beq_iff_eq] at hc
          obtain ⟨hname, hoff⟩ := hc
          have gu : (pu ++ u :: us).toArray[f.offset]? = some u := by rw [hoff, ← hu]; simp
          have gv : (pv ++ v :: vs).toArray[f.offset]? = some v := by rw [hoff, ← hv]; simp
          have step : ∀ (c q : Bool), (isAgg f.type).run P w = .ok false w → (Op.equalIn (d + 1) f.type u v).run P w = .ok c w → eqF P (n + 1) r us vs = some q → (Op.eqFields (d + 1) (pu ++ u :: us).toArray (pv ++ v :: vs).toArray (f :: r)).run P w = .ok (c && q) w := by
            intro c q hag hc hq
            have ih := eqF_run P w r (n + 1) d (pu ++ [u]) (pv ++ [v]) us vs q hq (by simp [hu]) (by simp [hv])
            simp only [List.append_assoc, List.singleton_append] at ih
            have p1 : (part f.type (pu ++ u :: us).toArray f.offset).run P w = .ok u w := by simp only [part, Sem.run_bind, hag, Result.andThen_ok, Bool.false_eq_true, if_false, gu]; rfl
            have p2 : (part f.type (pv ++ v :: vs).toArray f.offset).run P w = .ok v w := by simp only [part, Sem.run_bind, hag, Result.andThen_ok, Bool.false_eq_true, if_false, gv]; rfl
            simp only [Op.eqFields, if_pos hname, Sem.run_bind, p1, p2, Result.andThen_ok, hc, Sem.run_ite]
            cases c
            · simp
            · simpa using ih
          split at h
          · rename_i kk j p k q z hut hq
            split at h
            · rename_i hjk
              subst hjk
              cases h
              exact step _ _ (by unfold isAgg; rw [Sem.run_bind, run_underlying hut]; rfl) (run_equalIn_int w d f.type j kk p q hut) hq
            · cases h
          · rename_i p q z hut hq
            cases h
            exact step _ _ (by unfold isAgg; rw [Sem.run_bind, run_underlying hut]; rfl) (run_equalIn_bool' w d f.type p q hut) hq
          · cases h
        · cases h
theorem scalL_ok : ∀ {ls : List Lf} {us vs : List Value}, scalL ls = some us → All2 (TLeaf w Im C.Pn σ D) ls vs → vs = us
  | [], us, [], h, _ => by simp only [scalL] at h; cases h; rfl
  | [], _, _ :: _, _, h => h.elim
  | _ :: _, _, [], _, h => h.elim
  | l :: r, us, v :: vs, h, ha => by
    simp only [scalL] at h
    split at h
    · rename_i u us' hr
      cases h
      rw [scalL_ok hr ha.2, ha.1.1]
    · cases h
theorem ok_binOp {o : Oper} {op : BinOp} {t yt : TypeId} {x y : Operand} (ho : o.op = .binOp op t x y yt) {cx : Cx} (hP : cx.P = P) (hd : dOk C nt o.dst) (hm : RM C σ w Im D own) (ht : RT C nt σ w Im D a) (h : Run orc (opM cx o) σ lg) : OpOk P C nt o a w (apps lg σ) := by
  subst hP
  unfold opM at h
  rw [ho] at h
  dsimp only at h
  unfold binM at h
  obtain ⟨va, lg1, h1, e1, k1⟩ := valM_run ht h
  obtain ⟨vb, lg2, h2, e2, k2⟩ := valM_run ht h1
  rw [e1, e2]
  split at h2
  · -- two plain values
    rename_i u v
    have hx : a.eval x = u := k1.1
    have hy : a.eval y = v := k2.1
    have gen : ∀ {l}, Run orc (scalarM o.dst (semV cx.P (do eqGuard op t x y u v; binOp op t u v))) σ l → OpOk cx.P C nt o a w (apps l σ) := by
      intro l hl
      obtain ⟨cv, h4, h5⟩ := scalarM_ok hm ht hd hl
      exact .value (binOp_exec ho (by rw [hx, hy]; exact h4)) h5
    split at h2
    · rename_i j p k q
      split at h2
      · rename_i hjk
        subst hjk
        cases h2 with
        | ite h2 =>
          generalize hq : decide (q = 0) = z at h2
          cases z with
          | true => cases h2
          | false =>
            have hq' : q ≠ 0 := by simpa using hq
            exact .value (binOp_exec (cv := .int j (j.wrap (p.tdiv q))) ho (by rw [hx, hy]; simp [eqGuard_quo, binOp_quo, Op.intDiv, hq'])) (putM_ok hm ht hd h2 ⟨rfl, rfl⟩)
      · cases h2
    · rename_i j p k q
      split at h2
      · rename_i hjk
        subst hjk
        cases h2 with
        | ite h2 =>
          generalize hq : decide (q = 0) = z at h2
          cases z with
          | true => cases h2
          | false =>
            have hq' : q ≠ 0 := by simpa using hq
            exact .value (binOp_exec (cv := .int j (p.tmod q)) ho (by rw [hx, hy]; simp [eqGuard_rem, binOp_rem, Op.intDiv, hq'])) (putM_ok hm ht hd h2 ⟨rfl, rfl⟩)
      · cases h2
    · rename_i j p k q
      cases h2 with
      | ite h2 =>
        generalize hq : decide (q < 0) = z at h2
        cases z with
        | true => cases h2
        | false =>
          have hq' : ¬ q < 0 := by simpa using hq
          exact .value (binOp_exec (cv := .int j (j.wrap (p * 2 ^ (min q.toNat j.bits)))) ho (by rw [hx, hy]; simp [eqGuard_shl, binOp, Op.shift, hq'])) (putM_ok hm ht hd h2 ⟨rfl, rfl⟩)
    · rename_i j p k q
      cases h2 with
      | ite h2 =>
        generalize hq : decide (q < 0) = z at h2
        cases z with
        | true => cases h2
        | false =>
          have hq' : ¬ q < 0 := by simpa using hq
          exact .value (binOp_exec (cv := .int j (p.fdiv (2 ^ (min q.toNat j.bits)))) ho (by rw [hx, hy]; simp [eqGuard_shr, binOp, Op.shift, hq'])) (putM_ok hm ht hd h2 ⟨rfl, rfl⟩)
    · exact gen h2
  · -- two structs
    rename_i us vs
    obtain ⟨xs, hx, hxs⟩ := k1
    obtain ⟨ys, hy, hys⟩ := k2
    split at h2
    · rename_i us' vs' hu hv
      have hxu := scalL_ok hu hxs
      have hyv := scalL_ok hv hys
      subst hxu
      subst hyv
      split at h2
      · rename_i hc
        simp only [Bool.and_eq_true, Bool.not_eq_true'] at hc
        obtain ⟨⟨hst, hgt⟩, hag⟩ := hc
        have hut : cx.P.underlying t = some (.struct (cx.P.fieldsOf t)) := by
          unfold isAggT at hag
          unfold Program.fieldsOf
          split at hag
          · rename_i fs hu; rw [hu]
          · cases hag
        have hft : fieldsT cx.P t = (cx.P.fieldsOf t).toList := by
          unfold fieldsT
          rw [hut]
        generalize hq : eqF cx.P 0 (fieldsT cx.P t) xs ys = z at h2
        cases z with
        | none => cases h2
        | some b =>
          rw [hft] at hq
          have hrun := eqF_run cx.P w _ 0 9998 [] [] xs ys b hq rfl rfl
          simp only [List.nil_append] at hrun
          have heq : (Op.equalIn 10000 t (.agg xs.toArray) (.agg ys.toArray)).run cx.P w = .ok b w := by
            rw [run_equalIn_agg w 9999 t _ _ hut hst]
            exact hrun
          dsimp only at h2
          split at h2
          · exact .value (binOp_exec (cv := .bool b) ho (by rw [hx, hy]; simp [run_eqGuard_agg w _ t x y _ _ hgt, run_eql_struct, heq])) (putM_ok hm ht hd h2 ⟨rfl, rfl⟩)
          · exact .value (binOp_exec (cv := .bool (!b)) ho (by rw [hx, hy]; simp [run_eqGuard_agg w _ t x y _ _ hgt, run_neq_struct, heq])) (putM_ok hm ht hd h2 ⟨rfl, rfl⟩)
          · cases h2
      · cases h2
    · cases h2
  · cases h2
end Go.Vi
/- Lengths, indices, slices of slices, new slices. -/
namespace Go.Vi
set_option linter.unusedVariables false
set_option linter.unusedSimpArgs false
variable {P : Program} {orc : Orc} {C : Ct} {nt : Nat} {σ σ' : St} {w w' : World} {Im Im' Pn : Nat → Prop} {D D' : Nat → SD} {own own' : Nat → Option Tag} {a : Act} {lg : List Ac}

/-- What a slice value is, where something is known of it. -/
theorem view_header (hm : RM C σ w Im D own) {id off : Nat} {virt : Bool} {ls : List Lf} {m : Md} {e : TypeId} {k : Kd} {xs : List k.T} (hg : σ.get (2 * id + 1) = some (.slot virt ls)) (hl : ls[off]? = some (.lst m e k xs)) (hp : m ≠ .pin) {v : Value}
    (hv : TLeaf w Im C.Pn σ D (.view id off) v) : ∃ f, (D id).vs[off]? = some v ∧ LeafOk w Im C.Pn (.lst m e k xs) v f ∧ (∀ x ∈ f, own x = some (.leaf id off)) ∧ ∃ q c, v = .slice q xs.length c := by
  obtain ⟨v', f, h1, h2, h3, h4⟩ := hm.leaf hg hl
  have hvv : v' = v := by rw [hv virt ls m e k xs hg hl hp] at h1; cases h1; rfl
  subst hvv
  refine ⟨f, h1, h3, h4, ?_⟩
  cases m with
  | own => exact OwnG.slice h3
  | frz => exact FrzG.slice h3.2
  | pin => exact absurd rfl hp
theorem exec_builtin {o : Oper} {c : Call} {b : Builtin} (ho : o.op = .call c) (hc : c.callee = .builtin b) {cv : Value} (h : (builtin b c.argTypes o.type (c.args.map fun | .const _ => true | _ => false) (c.args.map a.eval)).run P w = .ok (.value cv) w') :
    (execOp a.eval o).run P w = .ok (.value cv) w' := by
  simp only [execOp, ho, resolve, hc, Sem.run_bind, Sem.run_pure, Result.andThen_ok, invoke]
  exact h
theorem args_one {c : Call} {x : Operand} (h : c.args.toList = [x]) : c.args.map a.eval = #[a.eval x] := by
  have : c.args = #[x] := by rw [← Array.toArray_toList (xs := c.args), h]
  simp [this]
theorem args_two {c : Call} {x y : Operand} (h : c.args.toList = [x, y]) : c.args.map a.eval = #[a.eval x, a.eval y] := by
  have : c.args = #[x, y] := by rw [← Array.toArray_toList (xs := c.args), h]
  simp [this]
theorem types_one {c : Call} {t : TypeId} (h : c.argTypes.toList = [t]) : c.argTypes = #[t] := by rw [← Array.toArray_toList (xs := c.argTypes), h]
theorem types_two {c : Call} {t u : TypeId} (h : c.argTypes.toList = [t, u]) : c.argTypes = #[t, u] := by rw [← Array.toArray_toList (xs := c.argTypes), h]
theorem elem_of {t e : TypeId} (h : P.underlying t = some (.slice e)) : P.elem t = e := by simp [Program.elem, h]
theorem ok_len {o : Oper} {c : Call} {x : Operand} {t : TypeId} (ho : o.op = .call c) (hc : c.callee = .builtin .len) (ha : c.args.toList = [x]) (hts : c.argTypes.toList = [t]) {cx : Cx} (hP : cx.P = P) (hd : dOk C nt o.dst) (hm : RM C σ w Im D own) (ht : RT C nt σ w Im D a)
    {v : V} (k1 : VOk w Im C.Pn σ D v (a.eval x)) (h : Run orc (lenM cx o.dst t v) σ lg) : OpOk P C nt o a w (apps lg σ) := by
  subst hP
  have key : ∀ {q : Option Addr} {n m : Nat} {l}, a.eval x = .slice q n m → (∃ e, cx.P.underlying t = some (.slice e)) → Run orc (putM o.dst (.one (.sc (.int .i64 n)))) σ l → OpOk cx.P C nt o a w (apps l σ) := by
    intro q n m l hx hu hr
    obtain ⟨e, hu⟩ := hu
    refine .value (cv := .int .i64 n) (exec_builtin ho hc ?_) (putM_ok hm ht hd hr ⟨rfl, rfl⟩)
    rw [args_one ha, types_one hts, hx]
    simp only [builtin]
    exact exec_v (run_len_slice w t o.type q n m (by rw [elem_of hu]; exact hu))
  unfold lenM at h
  split at h
  · rename_i e hu
    split at h
    · exact key (q := none) (n := 0) (m := 0) k1 ⟨e, hu⟩ h
    · rename_i m e' k' xs
      split at h
      · cases h
      · rename_i hne
        have hs : ∃ q c, a.eval x = .slice q xs.length c := by
          cases m with
          | own => exact absurd rfl hne
          | frz => exact FrzG.slice k1
          | pin => exact FrzG.slice k1
        obtain ⟨q, cc, hs⟩ := hs
        exact key hs ⟨e, hu⟩ h
    · rename_i id off
      obtain ⟨virt, ls, m, e', k, xs, lg', hg, hl, hp, hr, hap⟩ := listM_run h
      obtain ⟨f, _, _, _, q, cc, hs⟩ := view_header hm hg hl hp k1
      rw [hap]
      exact key hs ⟨e, hu⟩ hr
    · cases h
  · rename_i hu
    split at h
    · rename_i s
      refine .value (cv := .int .i64 s.size) (exec_builtin ho hc ?_) (putM_ok hm ht hd h ⟨rfl, rfl⟩)
      rw [args_one ha, types_one hts, show a.eval x = .string s from k1.1]
      simp only [builtin]
      exact exec_v (by simp [Builtin.len_, run_underlying hu, goInt])
    · cases h
  · cases h
theorem scalsM_run (ht : RT C nt σ w Im D a) : ∀ (xs : List Operand) {f : List Value → M} {lg : List Ac}, Run orc (scalsM xs f) σ lg → ∃ vs lg', Run orc (f vs) σ lg' ∧ apps lg σ = apps lg' σ ∧ xs.map a.eval = vs
  | [], f, lg, h => ⟨[], lg, h, rfl, rfl⟩
  | x :: r, f, lg, h => by
    obtain ⟨v, lg1, h1, e1, k1, _⟩ := scM_run ht h
    obtain ⟨vs, lg2, h2, e2, k2⟩ := scalsM_run ht r h1
    exact ⟨v :: vs, lg2, h2, e1.trans e2, by simp [k1, k2]⟩
theorem args_map {c : Call} {vs : List Value} (h : c.args.toList.map a.eval = vs) : c.args.map a.eval = vs.toArray := by
  apply Array.ext'
  simpa using h
theorem ok_max {o : Oper} {c : Call} (ho : o.op = .call c) (hc : c.callee = .builtin .max) {cx : Cx} (hP : cx.P = P) (hd : dOk C nt o.dst) (hm : RM C σ w Im D own) (ht : RT C nt σ w Im D a)
    (h : Run orc (scalsM c.args.toList fun vs => scalarM o.dst (semV cx.P (Builtin.max_ #[] 0 vs.toArray))) σ lg) : OpOk P C nt o a w (apps lg σ) := by
  subst hP
  obtain ⟨vs, lg1, h1, e1, k1⟩ := scalsM_run ht _ h
  obtain ⟨cv, h2, h3⟩ := scalarM_ok hm ht hd h1
  rw [e1]
  refine .value (exec_builtin ho hc ?_) h3
  rw [args_map k1]
  simp only [builtin]
  exact exec_v h2
theorem ok_min {o : Oper} {c : Call} (ho : o.op = .call c) (hc : c.callee = .builtin .min) {cx : Cx} (hP : cx.P = P) (hd : dOk C nt o.dst) (hm : RM C σ w Im D own) (ht : RT C nt σ w Im D a)
    (h : Run orc (scalsM c.args.toList fun vs => scalarM o.dst (semV cx.P (Builtin.min_ #[] 0 vs.toArray))) σ lg) : OpOk P C nt o a w (apps lg σ) := by
  subst hP
  obtain ⟨vs, lg1, h1, e1, k1⟩ := scalsM_run ht _ h
  obtain ⟨cv, h2, h3⟩ := scalarM_ok hm ht hd h1
  rw [e1]
  refine .value (exec_builtin ho hc ?_) h3
  rw [args_map k1]
  simp only [builtin]
  exact exec_v h2

/-! ### Indices -/
theorem ok_indexAddr {o : Oper} {t : TypeId} {x y : Operand} (ho : o.op = .indexAddr t x y) {cx : Cx} (hP : cx.P = P) (hd : dOk C nt o.dst) (hm : RM C σ w Im D own) (ht : RT C nt σ w Im D a) (h : Run orc (opM cx o) σ lg) : OpOk P C nt o a w (apps lg σ) := by
  subst hP
  unfold opM at h
  rw [ho] at h
  obtain ⟨v, lg1, h1, e1, k1⟩ := valM_run ht h
  obtain ⟨iv, lg2, h2, e2, k2, _⟩ := scM_run ht h1
  rw [e1, e2]
  unfold indexAddrM at h2
  split at h2
  · rename_i kk i e hu _
    cases h2 with
    | ite h2 =>
      generalize hi : decide (0 ≤ i) = z at h2
      cases z with
      | false => cases h2
      | true =>
        have hi0 : 0 ≤ i := by simpa using hi
        dsimp only at h2
        have run : ∀ {b p n c : Nat}, a.eval x = .slice (some ⟨b, p, none⟩) n c → i.toNat < n → cx.P.cellsOf e ≠ 0 → (execOp a.eval o).run cx.P w = .ok (.value (.pointer (some ⟨b, p + i.toNat * cx.P.cellsOf e, none⟩))) w := by
          intro b p n c hx hin hz
          have hue : cx.P.underlying t = some (.slice (cx.P.elem t)) := by rw [elem_of hu]; exact hu
          have := run_indexAt_slice (P := cx.P) w t ⟨b, p, none⟩ n c kk i hue
          rw [if_pos ⟨hi0, by omega⟩, elem_of hu, run_sizeOf' hz] at this
          simp only [execOp, ho, hx, k2]
          refine exec_v ?_
          rw [this]
          simp [Addr.add_lit]
        split at h2
        · rename_i id off
          obtain ⟨virt, ls, m, e', k, xs, lg3, hg, hl, hp, h3, e3⟩ := listM_run h2
          split at h3
          · rename_i hkw
            generalize hx : xs[i.toNat]? = q at h3
            cases h3 with
            | opt h3 =>
              rename_i xe
              have hlt : i.toNat < xs.length := (List.getElem?_eq_some_iff.1 hx).1
              obtain ⟨f, q1, q2, q3, qq, cc, hs⟩ := view_header hm hg hl hp k1
              have hblk : ∃ b p n c, a.eval x = .slice (some ⟨b, p, none⟩) n c ∧ n = xs.length := by
                cases m with
                | own =>
                  obtain ⟨g, c, cur, fss, fx, hel⟩ := Own.elemAt q2 hx
                  exact ⟨g, 0, _, c, hel.hv, rfl⟩
                | frz =>
                  rcases q2.2 with ⟨h', _⟩ | ⟨b, p, cap, arr, e'', fr, fss, h', _⟩
                  · rw [h'] at hlt; exact absurd hlt (Nat.not_lt_zero _)
                  · exact ⟨b, p, _, cap, h', rfl⟩
                | pin => exact absurd rfl hp
              obtain ⟨b, p, n, c, hsl, rfl⟩ := hblk
              have hz : cx.P.cellsOf e ≠ 0 := by
                intro h0
                rw [h0] at hkw
                obtain ⟨cs, g, _, c2, _⟩ := hm.leafElem hg hl (by rw [← hsl]; exact q1) hx
                obtain ⟨v0, f0, d1, d2, d3, d4⟩ := hm.leaf hg hl
                have := Kd.w_pos k
                omega
              rw [e3]
              refine .value (run hsl hlt hz) (putM_ok hm ht hd h3 ?_)
              intro virt' ls' m' e'' k' xs' hg' hl' _ hi'
              rw [hg] at hg'
              cases hg'
              rw [hl] at hl'
              cases hl'
              exact ⟨b, p, _, c, by rw [← hsl]; exact q1, by rw [hkw]; simp⟩
          · cases h3
        · rename_i m e' k xs
          split at h2
          · rename_i hkw
            generalize hx : xs[i.toNat]? = q at h2
            cases h2 with
            | opt h2 =>
              rename_i xe
              have hlt : i.toNat < xs.length := (List.getElem?_eq_some_iff.1 hx).1
              have hz : cx.P.cellsOf e ≠ 0 := by have := Kd.w_pos k; omega
              have fin : ∀ {l : List Ac} (S : Nat → Prop), (∀ b, S b → Im b) → Frz w S k xs (a.eval x) → Run orc (putM o.dst (.one (.faddr k xe 0))) σ l → OpOk cx.P C nt o a w (apps l σ) := by
                intro l S hS hf h2
                rcases hf with ⟨h', _⟩ | ⟨b, p, cap, arr, e'', fr, fss, h', r2⟩
                · rw [h'] at hlt; exact absurd hlt (Nat.not_lt_zero _)
                · obtain ⟨cs, g, c1, c2, c3, c4, c5, arr', e3, fr', c6, c7⟩ := Frz.elem (.inr ⟨b, p, cap, arr, e'', fr, fss, h', r2⟩) h' hx
                  refine .value (run h' hlt hz) (putM_ok hm ht hd h2 ?_)
                  refine ⟨b, p + i.toNat * k.w, arr', e3, fr', g, by rw [hkw]; simp, c6, hS _ c5, ?_, fun z hz => hS _ (c4 z hz)⟩
                  rw [← c7]
                  exact RepK.imp (fun _ _ => rfl) hS (fun _ _ => rfl) c3
              cases m with
              | own => exact k1.elim
              | frz => exact fin Im (fun _ h => h) k1 h2
              | pin => exact fin C.Pn hm.pnim k1 h2
          · cases h2
        · cases h2
  · cases h2
end Go.Vi
