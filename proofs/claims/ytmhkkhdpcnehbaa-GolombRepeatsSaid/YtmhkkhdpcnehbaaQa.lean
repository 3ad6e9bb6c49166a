/- An evaluator of pure values over pieces of Go is sound against the machine of the library; no condition. -/
import Derived.Below
import Derived.Orders
import Derived.WalkKit
import Derived.Laws.Cells
import Derived.Laws.Append
import Derived.Laws.Tables
import Derived.Laws.StructEq
import Derived.WideLaws
import Derived.Laws.Slices
import Derived.ChangeKeysEq
section
namespace Go.PE

/-- The types of pure values: a struct is a chain of 'cons' that ends in 'nil'. 'ptr', 'fn', 'map': cells that hold no pure value. -/
inductive Ty where
  | int (k : IntKind) | bool | str
  | slice (t : Ty) | arr (n : Nat) (t : Ty)
  | nil | cons (t ts : Ty)
  | ptr | fn | map (k v : Ty)

def kindBeq : IntKind → IntKind → Bool
  | .i8, .i8 | .i16, .i16 | .i32, .i32 | .i64, .i64 | .u8, .u8 | .u16, .u16 | .u32, .u32 | .u64, .u64 => true
  | _, _ => false
theorem kind_of_beq {a b : IntKind} (h : kindBeq a b = true) : a = b := by
  cases a <;> cases b <;> first | rfl | (simp [kindBeq] at h)

def Ty.beq : Ty → Ty → Bool
  | .int k, .int k' => kindBeq k k'
  | .bool, .bool | .str, .str | .nil, .nil | .ptr, .ptr | .fn, .fn => true
  | .slice a, .slice b => Ty.beq a b
  | .arr n a, .arr m b => Nat.beq n m && Ty.beq a b
  | .cons a as, .cons b bs => Ty.beq a b && Ty.beq as bs
  | .map a as, .map b bs => Ty.beq a b && Ty.beq as bs
  | _, _ => false
theorem Ty.eq_of_beq : ∀ {a b : Ty}, Ty.beq a b = true → a = b := by
  intro a
  induction a with
  | int k => intro b h; cases b <;> simp [Ty.beq] at h; rw [kind_of_beq h]
  | slice a ih => intro b h; cases b <;> simp [Ty.beq] at h; rw [ih h]
  | arr n a ih => intro b h; cases b <;> simp [Ty.beq] at h; rw [ih h.2, h.1]
  | cons a as ih ih' => intro b h; cases b <;> simp [Ty.beq] at h; rw [ih h.1, ih' h.2]
  | map a as ih ih' => intro b h; cases b <;> simp [Ty.beq] at h; rw [ih h.1, ih' h.2]
  | _ => intro b h; cases b <;> first | rfl | (simp [Ty.beq] at h)
theorem kindBeq_refl (k : IntKind) : kindBeq k k = true := by cases k <;> rfl
theorem Ty.beq_refl : ∀ (a : Ty), Ty.beq a a = true := by
  intro a
  induction a with
  | int k => exact kindBeq_refl k
  | slice a ih => exact ih
  | arr n a ih => simp [Ty.beq, ih]
  | cons a as ih ih' => simp [Ty.beq, ih, ih']
  | map a as ih ih' => simp [Ty.beq, ih, ih']
  | _ => rfl

/-- What a pure value of a type is: whole numbers, bytes of a string as numbers, lists, pairs. -/
@[reducible] def Ty.den : Ty → Type
  | .int _ => Int
  | .bool => Bool
  | .str => List Int
  | .slice t => List t.den
  | .arr _ t => List t.den
  | .nil => Unit
  | .cons t ts => t.den × ts.den
  | .ptr | .fn | .map _ _ => Unit

def Ty.dflt : (t : Ty) → t.den
  | .int _ => (0 : Int)
  | .bool => false
  | .str => ([] : List Int)
  | .slice _ => []
  | .arr n t => List.replicate n t.dflt
  | .nil => ()
  | .cons t ts => (t.dflt, ts.dflt)
  | .ptr | .fn | .map _ _ => ()

def Ty.size : Ty → Nat
  | .arr n t => n * t.size
  | .nil => 0
  | .cons t ts => t.size + ts.size
  | _ => 1

def Ty.height : Ty → Nat
  | .arr _ t => t.height + 1
  | .cons t ts => max (t.height + 1) ts.height
  | _ => 1
/-- Structs and arrays: what a temporary holds as one aggregate. -/
def Ty.isAgg : Ty → Bool
  | .arr _ _ | .nil | .cons _ _ => true
  | _ => false

/-- The bound on lengths that every pure slice and string keeps. -/
def big : Nat := 9223372036854775807

def CellsAt (w : World) (b off : Nat) (cs : List Value) : Prop := ∀ (j : Nat) (v : Value), cs[j]? = some v → w.cell? ⟨b, off + j, none⟩ = some v

/-- The cells 'cs' hold the pure value x; what it leads to lies in blocks of 'st'. -/
def Rep (w : World) (st : Nat → Prop) : (t : Ty) → t.den → List Value → Prop
  | .int k, n, cs => cs = [.int k n] ∧ k.min ≤ n ∧ n ≤ k.max
  | .bool, b, cs => cs = [.bool b]
  | .str, xs, cs => ∃ s : ByteArray, cs = [.string s] ∧ xs = s.data.toList.map (fun c => (c.toNat : Int)) ∧ s.size ≤ big
  | .slice t, xs, cs => ∃ a cap, cs = [.slice a xs.length cap] ∧ xs.length ≤ cap ∧ xs.length ≤ big ∧
      match a with
      | none => cap = 0
      | some a => 0 < xs.length → a.spot = none ∧ st a.block ∧ ∀ (i : Nat) (x : t.den), xs[i]? = some x → ∃ c, CellsAt w a.block (a.off + i * t.size) c ∧ Rep w st t x c
  | .arr n t, xs, cs => xs.length = n ∧ cs.length = n * t.size ∧ ∀ (i : Nat) (x : t.den), xs[i]? = some x → Rep w st t x ((cs.drop (i * t.size)).take t.size)
  | .nil, _, cs => cs = []
  | .cons t ts, x, cs => ∃ c c', cs = c ++ c' ∧ Rep w st t x.1 c ∧ Rep w st ts x.2 c'
  | .ptr, _, _ | .fn, _, _ | .map _ _, _, _ => False

theorem Rep.length {w : World} {st : Nat → Prop} : ∀ {t : Ty} {x : t.den} {cs : List Value}, Rep w st t x cs → cs.length = t.size := by
  intro t
  induction t with
  | int k => intro x cs h; rw [h.1]; rfl
  | bool => intro x cs h; rw [show cs = _ from h]; rfl
  | str => intro x cs h; obtain ⟨s, h, _⟩ := h; rw [h]; rfl
  | slice t ih => intro x cs h; obtain ⟨a, cap, h, _⟩ := h; rw [h]; rfl
  | arr n t ih => intro x cs h; exact h.2.1
  | nil => intro x cs h; rw [show cs = _ from h]; rfl
  | cons t ts ih ih' => intro x cs h; obtain ⟨c, c', h, h1, h2⟩ := h; rw [h, List.length_append, ih h1, ih' h2]; rfl
  | _ => intro x cs h; exact h.elim

theorem CellsAt.mono {w w' : World} {b off : Nat} {cs : List Value} (hb : w'.heap[b]? = w.heap[b]?) (h : CellsAt w b off cs) : CellsAt w' b off cs := by
  intro j v hj
  rw [World.cell?, hb]
  exact h j v hj

/-- A pure value stays what it is while the blocks of 'st' stay as they are. -/
theorem Rep.mono {w w' : World} {st st' : Nat → Prop} (hs : ∀ b, st b → st' b ∧ w'.heap[b]? = w.heap[b]?) :
    ∀ {t : Ty} {x : t.den} {cs : List Value}, Rep w st t x cs → Rep w' st' t x cs := by
  intro t
  induction t with
  | slice t ih =>
    intro x cs h
    obtain ⟨a, cap, h1, h2, h3, h4⟩ := h
    refine ⟨a, cap, h1, h2, h3, ?_⟩
    cases a with
    | none => exact h4
    | some a =>
      intro hpos
      obtain ⟨h5, h6, h7⟩ := h4 hpos
      refine ⟨h5, (hs _ h6).1, fun i y hy => ?_⟩
      obtain ⟨c, hc, hr⟩ := h7 i y hy
      exact ⟨c, hc.mono (hs _ h6).2, ih hr⟩
  | arr n t ih => intro x cs h; exact ⟨h.1, h.2.1, fun i y hy => ih (h.2.2 i y hy)⟩
  | cons t ts ih ih' => intro x cs h; obtain ⟨c, c', h0, h1, h2⟩ := h; exact ⟨c, c', h0, ih h1, ih' h2⟩
  | _ => intro x cs h; exact h

end Go.PE
end

section
namespace Go.PE

abbrev Oid := Nat × Nat
def oidBeq (a b : Oid) : Bool := Nat.beq a.1 b.1 && Nat.beq a.2 b.2

inductive TV where
  | undef | hole
  | pv (t : Ty) (x : t.den)
  | nils | nilp | nilf | nilm
  | mref (o : Oid)
  | ptr (o : Oid) (path : List Nat)
  | cptr (t : Ty) (x : t.den)
  | own (o : Oid)
  | hdr (o : Oid) (path : List Nat) (off len : Nat)
  | full (t : Ty) (x : List t.den)      -- a pure slice without room behind it
  | ncons (a as : TV)
  | fn (f : Nat) (caps : TV)
  | tup (ts : TV)

abbrev TV.nnil : TV := .pv .nil ()

inductive Ob where
  | box (t : Ty) (c : TV)
  | vec (t : Ty) (xs : List t.den)
  | mp (k v : Ty) (l : List (k.den × v.den))

abbrev Heap := Oid → Option Ob
abbrev Env := Nat → TV
structure S where
  env : Env
  heap : Heap
  next : Nat

def Heap.put (h : Heap) (o : Oid) (b : Option Ob) : Heap := fun p => bif oidBeq p o then b else h p
def Env.put (e : Env) (t : Nat) (v : TV) : Env := fun u => bif Nat.beq u t then v else e u
abbrev Delta := List (Oid × Option Ob)
def Heap.puts (h : Heap) : Delta → Heap
  | [] => h
  | (o, b) :: d => Heap.puts (h.put o b) d

inductive Ex where
  | normal | exit (id : Nat) | ret

/-! ### numbers -/
def inb (i : Int) (n : Nat) : Bool := decide (0 ≤ i) && decide (i < (n : Int))
def rd (t : Ty) (xs : List t.den) (i : Int) : t.den := xs.getD i.toNat t.dflt
def sub {α : Type} (xs : List α) (off len : Nat) : List α := (xs.drop off).take len
def lim : Nat := 1073741824
def shlI (k : IntKind) (a b : Int) : Int := k.wrap (a * 2 ^ (min b.toNat k.bits))
def shrI (k : IntKind) (a b : Int) : Int := a.fdiv (2 ^ (min b.toNat k.bits))
def bitI (op : BinOp) (k : IntKind) (a b : Int) : Int :=
  match op with
  | .and => k.wrap (BitVec.ofInt k.bits a &&& BitVec.ofInt k.bits b).toNat
  | .or => k.wrap (BitVec.ofInt k.bits a ||| BitVec.ofInt k.bits b).toNat
  | .xor => k.wrap (BitVec.ofInt k.bits a ^^^ BitVec.ofInt k.bits b).toNat
  | _ => k.wrap (BitVec.ofInt k.bits a &&& ~~~ BitVec.ofInt k.bits b).toNat
def lessI : List Int → List Int → Bool
  | _, [] => false
  | [], _ :: _ => true
  | a :: x, b :: y => decide (a < b) || (decide (a = b) && lessI x y)
def eqList {α : Type} (f : α → α → Bool) : List α → List α → Bool
  | [], [] => true
  | a :: x, b :: y => f a b && eqList f x y
  | _, _ => false
def Ty.eqb : (t : Ty) → t.den → t.den → Bool
  | .int _, a, b => decide ((a : Int) = b)
  | .bool, a, b => (a : Bool) == b
  | .str, a, b => eqList (fun (x y : Int) => decide (x = y)) a b
  | .arr _ t, a, b => eqList (Ty.eqb t) a b
  | .nil, _, _ => true
  | .cons t ts, a, b => Ty.eqb t a.1 b.1 && Ty.eqb ts a.2 b.2
  | _, _, _ => false
def Ty.comparable : Ty → Bool
  | .int _ | .bool | .str | .nil => true
  | .arr _ t => Ty.comparable t
  | .cons t ts => Ty.comparable t && Ty.comparable ts
  | _ => false
def Ty.hasSlice : Ty → Bool
  | .slice _ => true
  | .arr _ t => Ty.hasSlice t
  | .cons t ts => Ty.hasSlice t || Ty.hasSlice ts
  | _ => false
/-- A type without pointers, functions, maps. -/
def Ty.plain : Ty → Bool
  | .slice t | .arr _ t => Ty.plain t
  | .cons t ts => Ty.plain t && Ty.plain ts
  | .ptr | .fn | .map _ _ => false
  | _ => true

/-! ### parts of values -/
section
variable {α : Type}
def castK (t t' : Ty) (x : t.den) (K : t'.den → Option α) : Option α :=
  if h : Ty.beq t t' = true then K (Ty.eq_of_beq h ▸ x) else none
def mapCastK (k v k' v' : Ty) (l : List (k.den × v.den)) (K : List (k'.den × v'.den) → Option α) : Option α :=
  if h : Ty.beq k k' = true then if h' : Ty.beq v v' = true then K (Ty.eq_of_beq h ▸ Ty.eq_of_beq h' ▸ l) else none else none
def pvK (t : Ty) (v : TV) (K : t.den → Option α) : Option α :=
  match v with
  | .pv t' x => castK t' t x K
  | _ => none
def intK (v : TV) (K : IntKind → Int → Option α) : Option α :=
  match v with
  | .pv (.int k) n => K k n
  | _ => none

def fieldTV : TV → Nat → Option TV
  | .ncons a _, 0 => some a
  | .ncons _ as, i + 1 => fieldTV as i
  | .pv (.cons t _) x, 0 => some (.pv t x.1)
  | .pv (.cons _ ts) x, i + 1 => fieldTV (.pv ts x.2) i
  | _, _ => none
def mkCons (a as : TV) : TV :=
  match a, as with
  | .pv t x, .pv ts y => .pv (.cons t ts) (x, y)
  | a, as => .ncons a as
def setField : TV → Nat → TV → Option TV
  | .ncons _ as, 0, v => some (mkCons v as)
  | .ncons a as, i + 1, v => (setField as i v).map (mkCons a)
  | .pv (.cons _ ts) x, 0, v => some (mkCons v (.pv ts x.2))
  | .pv (.cons t ts) x, i + 1, v => (setField (.pv ts x.2) i v).map (mkCons (.pv t x.1))
  | _, _, _ => none
def tgetK : List Nat → TV → (TV → Option α) → Option α
  | [], c, K => K c
  | i :: p, .pv (.arr _ t) xs, K => (xs[i]?).bind fun x => tgetK p (.pv t x) K
  | i :: p, c, K => match fieldTV c i with
    | some v => tgetK p v K
    | none => none
def tsetK : List Nat → TV → TV → (TV → Option α) → Option α
  | [], _, v, K => K v
  | i :: p, .pv (.arr n t) xs, v, K => (xs[i]?).bind fun x => tsetK p (.pv t x) v fun c => pvK t c fun y => K (.pv (.arr n t) (xs.set i y))
  | i :: p, c, v, K => match fieldTV c i with
    | some c₀ => tsetK p c₀ v fun c' => match setField c i c' with
      | some c₂ => K c₂
      | none => none
    | none => none

/-- Offset and type of a part. -/
def Ty.offs : Ty → List Nat → Option (Nat × Ty)
  | .cons t ts, p => (match p with
    | [] => some (0, .cons t ts)
    | 0 :: p => Ty.offs t p
    | (i + 1) :: p => (match Ty.offs ts (i :: p) with
      | some (o, u) => some (t.size + o, u)
      | none => none))
  | .arr n t, p => (match p with
    | [] => some (0, .arr n t)
    | i :: p => (match Ty.offs t p with
      | some (o, u) => some (i * t.size + o, u)
      | none => none))
  | t, p => (match p with
    | [] => some (0, t)
    | _ :: _ => none)

def fitB : Ty → TV → Bool
  | T, .pv t _ => Ty.beq t T
  | .slice _, .nils | .slice _, .own _ | .slice _, .hdr .. => true
  | .ptr, .nilp | .ptr, .ptr .. | .ptr, .cptr .. => true
  | .fn, .nilf | .fn, .fn .. => true
  | .map _ _, .nilm | .map _ _, .mref _ => true
  | .cons t ts, .ncons a as => fitB t a && fitB ts as
  | _, _ => false

/-- The zero value of a type. -/
def zeroTV : Ty → TV
  | .slice _ => .nils
  | .ptr => .nilp
  | .fn => .nilf
  | .map _ _ => .nilm
  | .cons t ts => mkCons (zeroTV t) (zeroTV ts)
  | t => .pv t t.dflt

def tvIds : TV → List Oid
  | .ptr o _ | .own o | .hdr o .. | .mref o => [o]
  | .ncons a as => tvIds a ++ tvIds as
  | .fn _ c => tvIds c
  | .tup c => tvIds c
  | _ => []
def oidMem (o : Oid) : List Oid → Bool
  | [] => false
  | p :: l => oidBeq o p || oidMem o l
def oidsApart : List Oid → List Oid → Bool
  | [], _ => true
  | o :: l, m => !oidMem o m && oidsApart l m
def oidsNodup : List Oid → Bool
  | [] => true
  | o :: l => !oidMem o l && oidsNodup l

/-- What an own slice or a part of one holds. -/
def rowK (h : Heap) (o : Oid) (path : List Nat) (K : (t : Ty) → List t.den → Option α) : Option α :=
  match h o, path with
  | some (.vec t xs), [] => K t xs
  | some (.box _ c), path => tgetK path c fun v => match v with
    | .pv (.arr _ t) xs => K t xs
    | _ => none
  | _, _ => none
/-- The pure value of type T that is there. -/
def pureK (h : Heap) : TV → (T : Ty) → (T.den → Option α) → Option α
  | .pv t x, T, K => castK t T x K
  | .full t x, T, K => castK (.slice t) T x K
  | .nils, .slice _, K => K []
  | .own o, .slice t, K => rowK h o [] fun t' xs => castK (.slice t') (.slice t) xs K
  | .hdr o p off len, .slice t, K => rowK h o p fun t' xs => castK (.slice t') (.slice t) (sub xs off len) K
  | .ncons a as, .cons t ts, K => pureK h a t fun x => pureK h as ts fun y => K (x, y)
  | _, _, _ => none
end

/-! ### templates -/
inductive TT where
  | hole (t : Ty) | cptr (t : Ty)
  | own (j : Nat) | ptr (j : Nat) (path : List Nat)
  | nils | nilp | nilf | nilm | mref (j : Nat)
  | ncons (a as : TT) | nnil
  | fn (f : Nat) (caps : TT)
@[reducible] def TT.den : TT → Type
  | .hole t | .cptr t => t.den
  | .ncons a as => a.den × as.den
  | .fn _ c => c.den
  | _ => Unit
inductive OT where
  | box (t : Ty) (c : TT) | vec (t : Ty) | mp (k v : Ty) | dead
@[reducible] def OT.den : OT → Type
  | .box _ c => c.den
  | .vec t => List t.den
  | .mp k v => List (k.den × v.den)
  | .dead => Unit
@[reducible] def TT.dens : List TT → Type
  | [] => Unit
  | t :: l => t.den × TT.dens l
@[reducible] def OT.dens : List OT → Type
  | [] => Unit
  | t :: l => t.den × OT.dens l
def TT.fill (ids : Nat → Oid) : (T : TT) → T.den → TV
  | .hole t, x => .pv t x
  | .cptr t, x => .cptr t x
  | .own j, _ => .own (ids j)
  | .ptr j p, _ => .ptr (ids j) p
  | .nils, _ => .nils
  | .nilp, _ => .nilp
  | .nilf, _ => .nilf
  | .nilm, _ => .nilm
  | .mref j, _ => .mref (ids j)
  | .ncons a as, x => .ncons (a.fill ids x.1) (as.fill ids x.2)
  | .nnil, _ => .nnil
  | .fn f c, x => .fn f (c.fill ids x)
def TT.fills (ids : Nat → Oid) : (l : List TT) → TT.dens l → List TV
  | [], _ => []
  | t :: l, x => t.fill ids x.1 :: TT.fills ids l x.2
def OT.fill (ids : Nat → Oid) : (T : OT) → T.den → Option Ob
  | .box t c, x => some (.box t (c.fill ids x))
  | .vec t, xs => some (.vec t xs)
  | .mp k v, l => some (.mp k v l)
  | .dead, _ => none
/-- The objects of a template, the first of them number j. -/
def OT.fills (ids : Nat → Oid) : (l : List OT) → OT.dens l → Nat → Delta
  | [], _, _ => []
  | t :: l, x, j => (ids j, t.fill ids x.1) :: OT.fills ids l x.2 (j + 1)
def TT.isList : TT → Bool
  | .nnil => true
  | .ncons _ l => l.isList
  | _ => false
def ids0 (j : Nat) : Oid := (j, 0)
def TT.shares : TT → Bool
  | .hole t => t.hasSlice
  | .cptr _ => true
  | .ncons a as => a.shares || as.shares
  | .fn _ c => c.shares
  | _ => false
def OT.shares : OT → Bool
  | .box _ C => C.shares
  | .vec t => t.hasSlice
  | .mp k v => k.hasSlice || v.hasSlice
  | .dead => false

/-- Where an object of a template comes from. -/
inductive Src where
  | none | obj (o : Oid) | part (o : Oid) (off len : Nat) | fresh
structure Bind where
  l : List (Nat × Src)
  snaps : List Oid
def srcAt : List (Nat × Src) → Nat → Src
  | [], _ => .none
  | (i, s) :: l, j => bif Nat.beq j i then s else srcAt l j
def Bind.src (b : Bind) (j : Nat) : Src := srcAt b.l j
def keysBelow (n : Nat) : List (Nat × Src) → Bool
  | [] => true
  | (i, _) :: l => Nat.blt i n && keysBelow n l
def Src.ids : Src → List Oid
  | .obj o | .part o _ _ => [o]
  | _ => []
def Bind.empty : Bind := ⟨[], []⟩
def Bind.set (b : Bind) (j : Nat) (s : Src) : Bind := ⟨(j, s) :: b.l, b.snaps⟩
def Bind.snap (b : Bind) (l : List Oid) : Bind := ⟨b.l, l ++ b.snaps⟩
def pathBeq : List Nat → List Nat → Bool
  | [], [] => true
  | a :: l, b :: m => Nat.beq a b && pathBeq l m
  | _, _ => false
section
variable {α : Type}
def matchK (h : Heap) : (T : TT) → TV → Bind → (T.den → Bind → Option α) → Option α
  | .hole t, v, b, K => pureK h v t fun x => K x (b.snap (tvIds v))
  | .cptr t, v, b, K => match v with
    | .cptr t' x => castK t' t x fun y => K y b
    | .ptr o p => match h o with
      | some (.box _ c) => tgetK p c fun v => pureK h v t fun x => K x (b.snap (o :: tvIds v))
      | _ => none
    | _ => none
  | .own j, v, b, K => match b.src j with
    | .none => match v with
      | .own o => K () (b.set j (.obj o))
      | .hdr o [] off len => K () (b.set j (.part o off len))
      | .nils => K () (b.set j .fresh)
      | _ => none
    | .obj o' => match v with
      | .own o => bif oidBeq o o' then K () b else none
      | _ => none
    | _ => none
  | .ptr j p, v, b, K => match v with
    | .ptr o q => bif pathBeq p q then (match b.src j with
      | .none => K () (b.set j (.obj o))
      | .obj o' => bif oidBeq o o' then K () b else none
      | _ => none) else none
    | _ => none
  | .nils, .nils, b, K => K () b
  | .nilp, .nilp, b, K => K () b
  | .nilf, .nilf, b, K => K () b
  | .nilm, .nilm, b, K => K () b
  | .mref j, v, b, K => match v with
    | .mref o => (match b.src j with
      | .none => K () (b.set j (.obj o))
      | .obj o' => bif oidBeq o o' then K () b else none
      | _ => none)
    | _ => none
  | .ncons A B, v, b, K => match v with
    | .ncons a as => matchK h A a b fun x b => matchK h B as b fun y b => K (x, y) b
    | .pv (.cons t ts) z => matchK h A (.pv t z.1) b fun x b => matchK h B (.pv ts z.2) b fun y b => K (x, y) b
    | _ => none
  | .nnil, .pv .nil _, b, K => K () b
  | .fn f C, v, b, K => match v with
    | .fn g c => bif Nat.beq f g && C.isList then matchK h C c b K else none
    | _ => none
  | _, _, _, _ => none
def matchesK (h : Heap) : (l : List TT) → List TV → Bind → (TT.dens l → Bind → Option α) → Option α
  | [], [], b, K => K () b
  | T :: l, v :: vs, b, K => matchK h T v b fun x b => matchesK h l vs b fun y b => K (x, y) b
  | _, _, _, _ => none
/-- The objects of a template, behind what leads to them. -/
def objK (h : Heap) (T : OT) (s : Src) (b : Bind) (K : T.den → Bind → Option α) : Option α :=
  match T, s with
  | .dead, _ => K () b
  | .box t C, .obj o => match h o with
    | some (.box t' c) => bif Ty.beq t' t then matchK h C c b (fun x b => bif fitB t (C.fill ids0 x) then K x b else none) else none
    | _ => none
  | .mp k v, .obj o => match h o with
    | some (.mp k' v' l) => mapCastK k' v' k v l fun l => K l b
    | _ => none
  | .vec t, .obj o => match h o with
    | some (.vec t' xs) => castK (.slice t') (.slice t) xs fun ys => K ys b
    | _ => none
  | .vec t, .part o off len => match h o with
    | some (.vec t' xs) => bif Nat.ble (off + len) xs.length then castK (.slice t') (.slice t) (sub xs off len) fun ys => K ys b else none
    | _ => none
  | .vec _, .fresh => K [] b
  | _, _ => none
def objsK (h : Heap) : (l : List OT) → Nat → Bind → (OT.dens l → Bind → Option α) → Option α
  | [], _, b, K => K () b
  | T :: l, j, b, K => objK h T (b.src j) b fun x b => objsK h l (j + 1) b fun y b => K (x, y) b
def Bind.mapped (b : Bind) : Nat → List Oid
  | 0 => []
  | n + 1 => b.mapped n ++ (b.src n).ids
/-- No object twice, and none both an object and read as a pure value. -/
def Bind.ok (b : Bind) (n : Nat) : Bool := keysBelow n b.l && oidsNodup (b.mapped n) && oidsApart b.snaps (b.mapped n)
/-- Values and objects by a template. -/
def coerceK (h : Heap) (ts : List TT) (os : List OT) (vs : List TV) (b : Bind) (K : TT.dens ts × OT.dens os → Bind → Option α) : Option α :=
  matchesK h ts vs b fun x b => objsK h os 0 b fun y b => bif b.ok os.length then K (x, y) b else none
end

/-! ### calls -/
structure Sig where
  ins : List TT
  inObs : List OT
  outs : List TT
  outObs : List OT
  FK : {α : Type} → TT.dens ins × OT.dens inObs → (TT.dens outs × OT.dens outObs → Option α) → Option α
  nat : ∀ {α : Type} (v : TT.dens ins × OT.dens inObs) (K : TT.dens outs × OT.dens outObs → Option α), FK v K = (FK v some).bind K
def tvList : List TV → TV
  | [] => .nnil
  | v :: l => .ncons v (tvList l)
def killAll : List Oid → Delta
  | [] => []
  | o :: l => (o, none) :: killAll l
/-- The number, in the caller, of the callee's object j. -/
def backId (b : Bind) (m i j : Nat) : Oid :=
  match b.src j with
  | .obj o => bif Nat.blt j m then o else (i, j)
  | _ => (i, j)
def partOids (b : Bind) : Nat → List Oid
  | 0 => []
  | n + 1 => (match b.src n with | .part o _ _ => [o] | _ => []) ++ partOids b n
def tupOf : List TV → TV
  | [v] => v
  | l => .tup (tvList l)
def callK {α : Type} (g : Sig) (i : Nat) (vs : List TV) (h : Heap) (K : TV → Delta → Option α) : Option α :=
  coerceK h g.ins g.inObs vs .empty fun v b =>
    g.FK v fun r =>
      let ids := backId b g.inObs.length i
      K (tupOf (TT.fills ids g.outs r.1))
        (killAll ((bif g.outs.any TT.shares || g.outObs.any OT.shares then b.snaps else []) ++ partOids b g.inObs.length) ++ OT.fills ids g.outObs r.2 0)

/-! ### operations -/
def kindIn (k : IntKind) (n : Int) : Bool := decide (k.min ≤ n) && decide (n ≤ k.max)
def constTV : Value → TV
  | .bool b => .pv .bool b
  | .int k n => bif kindIn k n then .pv (.int k) n else .undef
  | .string s => bif Nat.ble s.size 1000000 then .pv .str (s.data.toList.map fun c => (c.toNat : Int)) else .undef
  | .slice none 0 0 => .nils
  | .map none => .nilm
  | .pointer none => .nilp
  | .nilFunc => .nilf
  | _ => .undef
def evalTV (env : Env) : Operand → TV
  | .tmp t => env t
  | .const v => constTV v
  | .func f => .fn f .nnil
  | .global _ => .undef

section
variable {α : Type}
def intBinK (op : BinOp) (k : IntKind) (a : Int) (k' : IntKind) (b : Int) (K : TV → Option α) : Option α :=
  match op with
  | .shl => bif k'.signed && decide (b < 0) then none else K (.pv (.int k) (shlI k a b))
  | .shr => bif k'.signed && decide (b < 0) then none else K (.pv (.int k) (shrI k a b))
  | op => bif kindBeq k k' then (match op with
    | .add => K (.pv (.int k) (k.wrap (a + b)))
    | .sub => K (.pv (.int k) (k.wrap (a - b)))
    | .mul => K (.pv (.int k) (k.wrap (a * b)))
    | .quo => bif decide (b = 0) then none else K (.pv (.int k) (k.wrap (a.tdiv b)))
    | .rem => bif decide (b = 0) then none else K (.pv (.int k) (a.tmod b))
    | .and => K (.pv (.int k) (bitI .and k a b))
    | .or => K (.pv (.int k) (bitI .or k a b))
    | .xor => K (.pv (.int k) (bitI .xor k a b))
    | .andNot => K (.pv (.int k) (bitI .andNot k a b))
    | .eql => K (.pv .bool (decide (a = b)))
    | .neq => K (.pv .bool (!decide (a = b)))
    | .lss => K (.pv .bool (decide (a < b)))
    | .leq => K (.pv .bool (decide (a ≤ b)))
    | .gtr => K (.pv .bool (decide (b < a)))
    | .geq => K (.pv .bool (decide (b ≤ a)))
    | _ => none) else none
def strBinK (op : BinOp) (a b : List Int) (K : TV → Option α) : Option α :=
  match op with
  | .add => bif decide (a.length + b.length ≤ lim) then K (.pv .str (a ++ b)) else none
  | .eql => K (.pv .bool (eqList (fun (x y : Int) => decide (x = y)) a b))
  | .neq => K (.pv .bool (!eqList (fun (x y : Int) => decide (x = y)) a b))
  | .lss => K (.pv .bool (lessI a b))
  | .gtr => K (.pv .bool (!(lessI a b || eqList (fun (x y : Int) => decide (x = y)) a b)))
  | .leq => K (.pv .bool (lessI a b || eqList (fun (x y : Int) => decide (x = y)) a b))
  | .geq => K (.pv .bool (!lessI a b))
  | _ => none
def eqBinK (op : BinOp) (T : Option Ty) (x y : TV) (K : TV → Option α) : Option α :=
  match T, x, y with
  | some T, .pv t a, .pv t' b => castK t T a fun a => castK t' T b fun b => bif T.comparable then (match op with
    | .eql => K (.pv .bool (T.eqb a b))
    | .neq => K (.pv .bool (!T.eqb a b))
    | _ => none) else none
  | _, _, _ => none
def binK (op : BinOp) (T : Option Ty) (x y : TV) (K : TV → Option α) : Option α :=
  match x, y with
  | .pv (.int k) a, .pv (.int k') b => intBinK op k a k' b K
  | .pv .str a, .pv .str b => strBinK op a b K
  | x, y => eqBinK op T x y K
def xorM (k : IntKind) : Int := if k.signed then -1 else k.max
def unK (op : UnOp) (x : TV) (K : TV → Option α) : Option α :=
  match op, x with
  | .not, .pv .bool b => K (.pv .bool (!b))
  | .neg, .pv (.int k) n => K (.pv (.int k) (k.wrap (-n)))
  | .xor, .pv (.int k) n => K (.pv (.int k) (bitI .xor k (xorM k) n))
  | _, _ => none
/-- What a slice, a string holds, with its length's bound. -/
def srcK (h : Heap) (v : TV) (t : Ty) (K : List t.den → Option α) : Option α :=
  match v with
  | .pv .str xs => castK (.slice (.int .u8)) (.slice t) xs K
  | v => pureK h v (.slice t) K
def lenK (h : Heap) (v : TV) (K : Int → Option α) : Option α :=
  match v with
  | .pv (.slice _) xs => K (xs.length : Int)
  | .pv .str xs => K (xs.length : Int)
  | .pv (.arr n _) _ => K (n : Int)
  | .nils => K 0
  | .own o => match h o with
    | some (.vec _ xs) => K (xs.length : Int)
    | _ => none
  | .hdr _ _ _ len => K (len : Int)
  | _ => none
def sliceOf : TV → Ty → Option Ty
  | _, .slice t => some t
  | _, _ => none
def appendK (h : Heap) (id : Oid) (t : Ty) (s x : TV) (K : TV → Delta → Option α) : Option α :=
  srcK h x t fun ys => match s with
    | .nils => bif decide (ys.length ≤ lim) then K (.own id) [(id, some (.vec t ys))] else none
    | .full t' xs => castK (.slice t') (.slice t) xs fun xs =>
        bif decide (0 < ys.length) && decide (xs.length + ys.length ≤ lim) then K (.own id) [(id, some (.vec t (xs ++ ys)))] else none
    | .own o => rowK h o [] fun t' xs => castK (.slice t') (.slice t) xs fun xs =>
        bif decide (xs.length + ys.length ≤ lim) then K (.own id) [(o, none), (id, some (.vec t (xs ++ ys)))] else none
    | .hdr o p off len => rowK h o p fun t' xs => castK (.slice t') (.slice t) xs fun xs =>
        bif decide ((sub xs off len).length + ys.length ≤ lim) then K (.own id) [(o, none), (id, some (.vec t (sub xs off len ++ ys)))] else none
    | _ => none
def copyK (h : Heap) (t : Ty) (d x : TV) (K : TV → Delta → Option α) : Option α :=
  srcK h x t fun ys => match d with
    | .own o => rowK h o [] fun t' xs => castK (.slice t') (.slice t) xs fun xs =>
        K (.pv (.int .i64) ((min ys.length xs.length : Nat) : Int)) [(o, some (.vec t (ys.take xs.length ++ xs.drop ys.length)))]
    | .hdr o [] 0 len => match h o with
      | some (.box (.arr n u) (.pv T xs)) => castK T (.arr n t) xs fun xs => bif Ty.beq u t && (Nat.beq n len && Nat.ble n 4096) then
          K (.pv (.int .i64) ((min ys.length n : Nat) : Int)) [(o, some (.box (.arr n t) (.pv (.arr n t) (ys.take n ++ xs.drop ys.length))))] else none
      | _ => none
    | .nils => K (.pv (.int .i64) 0) []
    | _ => none
def boundK (v : Option TV) (d : Nat) (m : Nat) (K : Nat → Option α) : Option α :=
  match v with
  | none => K d
  | some (.pv (.int _) i) => bif decide (0 ≤ i) && decide (i ≤ (m : Int)) then K i.toNat else none
  | _ => none
def sliceK (h : Heap) (T : Ty) (x : TV) (lo hi : Option TV) (K : TV → Option α) : Option α :=
  match x with
  | .pv .str xs => bif Ty.beq T .str then boundK hi xs.length xs.length fun r => boundK lo 0 r fun l => K (.pv .str (sub xs l (r - l))) else none
  | .pv (.slice t) xs => bif Ty.beq T (.slice t) then boundK hi xs.length xs.length fun r => boundK lo 0 r fun l => K (.pv (.slice t) (sub xs l (r - l))) else none
  | .nils => (match T with
    | .slice _ => boundK hi 0 0 fun r => boundK lo 0 r fun _ => K .nils
    | _ => none)
  | .own o => rowK h o [] fun t xs => bif Ty.beq T (.slice t) then boundK hi xs.length xs.length fun r => boundK lo 0 r fun l => K (.hdr o [] l (r - l)) else none
  | .hdr o p off len => rowK h o p fun t _ => bif Ty.beq T (.slice t) then boundK hi len len fun r => boundK lo 0 r fun l => K (.hdr o p (off + l) (r - l)) else none
  | .ptr o p => match h o with
    | some (.box B _) => match B.offs p with
      | some (_, .arr n t) => bif Ty.beq T (.arr n t) then rowK h o p fun _ _ => boundK hi n n fun r => boundK lo 0 r fun l => K (.hdr o p l (r - l)) else none
      | _ => none
    | _ => none
  | .cptr (.arr n t) xs => bif Ty.beq T (.arr n t) then boundK hi n n fun r => boundK lo 0 r fun l => K (.pv (.slice t) (sub xs l (r - l))) else none
  | _ => none
/-- A slice with a bound of its room, no further than its length. -/
def sliceMaxK (h : Heap) (T : Ty) (x : TV) (lo hi m : Option TV) (K : TV → Option α) : Option α :=
  match x with
  | .pv (.slice t) xs => bif Ty.beq T (.slice t) && (hi.isSome && m.isSome) then boundK m 0 xs.length fun q => boundK hi 0 q fun r => boundK lo 0 r fun l => bif Nat.beq q r then K (.full t (sub xs l (r - l))) else none else none
  | .nils => (match T with
    | .slice _ => bif hi.isSome && m.isSome then boundK m 0 0 fun q => boundK hi 0 q fun r => boundK lo 0 r fun _ => K .nils else none
    | _ => none)
  | .own o => rowK h o [] fun t xs => bif Ty.beq T (.slice t) && (hi.isSome && m.isSome) then boundK m 0 xs.length fun q => boundK hi 0 q fun r => boundK lo 0 r fun l => K (.hdr o [] l (r - l)) else none
  | .hdr o p off len => rowK h o p fun t _ => bif Ty.beq T (.slice t) && (hi.isSome && m.isSome) then boundK m 0 len fun q => boundK hi 0 q fun r => boundK lo 0 r fun l => K (.hdr o p (off + l) (r - l)) else none
  | _ => none
def isField : Ty → Nat → Bool
  | .cons t ts, f => ((Ty.cons t ts).offs [f]).isSome
  | _, _ => false
def fieldAddrK (h : Heap) (T : Ty) (x : TV) (f : Nat) (K : TV → Option α) : Option α :=
  bif isField T f then (match x with
    | .ptr o p => match h o with
      | some (.box B _) => match B.offs p with
        | some (_, T') => bif Ty.beq T' T then K (.ptr o (p ++ [f])) else none
        | none => none
      | some (.vec t _) => match p with
        | [] => none
        | _ :: p' => match t.offs p' with
          | some (_, T') => bif Ty.beq T' T then K (.ptr o (p ++ [f])) else none
          | none => none
      | _ => none
    | .cptr T' z => bif Ty.beq T' T then (match fieldTV (.pv T' z) f with
      | some (.pv t y) => K (.cptr t y)
      | _ => none) else none
    | _ => none) else none
def indexAddrK (h : Heap) (T : Ty) (x : TV) (i : Int) (K : TV → Option α) : Option α :=
  match x with
  | .pv (.slice t) xs => bif Ty.beq T (.slice t) then bif inb i xs.length then K (.cptr t (rd t xs i)) else none else none
  | .cptr (.arr n t) xs => bif Ty.beq T (.arr n t) then bif inb i n then K (.cptr t (rd t xs i)) else none else none
  | .own o => rowK h o [] fun t xs => bif Ty.beq T (.slice t) then bif inb i xs.length then K (.ptr o [i.toNat]) else none else none
  | .hdr o p off len => rowK h o p fun t _ => bif Ty.beq T (.slice t) then bif inb i len then K (.ptr o (p ++ [off + i.toNat])) else none else none
  | .ptr o p => match h o with
    | some (.box B _) => match B.offs p with
      | some (_, .arr n t) => bif Ty.beq T (.arr n t) then bif inb i n then K (.ptr o (p ++ [i.toNat])) else none else none
      | _ => none
    | _ => none
  | _ => none
def indexK (x : TV) (i : Int) (K : TV → Option α) : Option α :=
  match x with
  | .pv (.arr n t) xs => bif inb i n then K (.pv t (rd t xs i)) else none
  | .pv .str xs => bif inb i xs.length then K (.pv (.int .u8) (rd (.int .u8) xs i)) else none
  | _ => none
def loadK (h : Heap) (T : Ty) (x : TV) (K : TV → Option α) : Option α :=
  match x with
  | .cptr t y => bif Ty.beq t T then K (.pv t y) else none
  | .ptr o p => match h o with
    | some (.box _ c) => tgetK p c fun v => bif fitB T v then K v else none
    | some (.vec t xs) => match p with
      | [] => none
      | i :: p' => (xs[i]?).bind fun y => tgetK p' (.pv t y) fun v => bif fitB T v then K v else none
    | _ => none
  | _ => none
def storeK (h : Heap) (T : Ty) (x v : TV) (K : Delta → Option α) : Option α :=
  match x with
  | .ptr o p => match h o with
    | some (.box B c) => match B.offs p with
      | some (_, T') => bif Ty.beq T' T && fitB T v then tsetK p c v fun c' => bif fitB B c' then K [(o, some (.box B c'))] else none else none
      | none => none
    | some (.vec t xs) => match p with
      | [] => none
      | i :: p' => match t.offs p' with
        | some (_, T') => bif (Ty.beq T' T && !oidMem o (tvIds v)) && fitB T v then pureK h v T fun z => (xs[i]?).bind fun y => tsetK p' (.pv t y) (.pv T z) fun c' => pvK t c' fun y' =>
            K ((bif T.hasSlice then killAll (tvIds v) else []) ++ [(o, some (.vec t (xs.set i y')))]) else none
        | none => none
    | _ => none
  | _ => none
def convK (h : Heap) (id : Oid) (S T : Ty) (x : TV) (K : TV → Delta → Option α) : Option α :=
  match S, T, x with
  | _, .int k, .pv (.int _) n => K (.pv (.int k) (k.wrap n)) []
  | _, .str, .pv .str xs => K (.pv .str xs) []
  | .slice (.int .u8), .str, x => pureK h x (.slice (.int .u8)) fun xs => K (.pv .str xs) []
  | _, .slice (.int .u8), .pv .str xs => bif decide (xs.length ≤ lim) then K (.own id) [(id, some (.vec (.int .u8) xs))] else none
  | _, _, _ => none
/-- Parts laid into a struct or array. -/
def buildK (T : Ty) : List (Nat × TV) → TV → (TV → Option α) → Option α
  | [], c, K => K c
  | (i, v) :: l, c, K => match T.offs [i] with
    | some (_, U) => bif fitB U v then tsetK [i] c v fun c' => bif fitB T c' then buildK T l c' K else none else none
    | none => none
def buildSliceK (h : Heap) (t : Ty) : List (Nat × TV) → List t.den → (List t.den → Option α) → Option α
  | [], xs, K => K xs
  | (i, v) :: l, xs, K => bif Nat.blt i xs.length then pureK h v t fun y => buildSliceK h t l (xs.set i y) K else none
def partIds (t : Ty) : List (Nat × TV) → List Oid
  | [] => []
  | (_, v) :: l => tvIds v ++ partIds t l
def minMaxK (isMax : Bool) : List TV → (TV → Option α) → Option α
  | [.pv (.int k) a, .pv (.int k') b], K => bif kindBeq k k' then K (.pv (.int k) (match isMax with | true => max a b | false => min a b)) else none
  | [.pv (.int k) a, .pv (.int k') b, .pv (.int k'') c], K => bif kindBeq k k' && kindBeq k k'' then K (.pv (.int k) (match isMax with | true => max (max a b) c | false => min (min a b) c)) else none
  | _, _ => none

/-! ### maps -/
def mfind (k v : Ty) (x : k.den) : List (k.den × v.den) → Option v.den
  | [] => none
  | e :: l => bif k.eqb x e.1 then some e.2 else mfind k v x l
def mset (k v : Ty) (x : k.den) (y : v.den) : List (k.den × v.den) → List (k.den × v.den)
  | [] => [(x, y)]
  | e :: l => bif k.eqb x e.1 then (x, y) :: l else e :: mset k v x y l
/-- What a map holds. -/
def mapK (h : Heap) (x : TV) (k v : Ty) (K : List (k.den × v.den) → Option α) : Option α :=
  match x with
  | .nilm => K []
  | .mref o => match h o with
    | some (.mp k' v' l) => mapCastK k' v' k v l K
    | _ => none
  | _ => none
def hasK {β : Type} : Option β → Bool
  | some _ => true
  | none => false
def lookupK (h : Heap) (k v : Ty) (x i : TV) (ok : Bool) (K : TV → Option α) : Option α :=
  bif k.comparable && v.plain then mapK h x k v fun l => pureK h i k fun a =>
    match ok with
    | true => K (.tup (.ncons (.pv v ((mfind k v a l).getD v.dflt)) (.ncons (.pv .bool (hasK (mfind k v a l))) .nnil)))
    | false => K (.pv v ((mfind k v a l).getD v.dflt))
  else none
def mapSetK (h : Heap) (k v : Ty) (x i y : TV) (K : TV → Delta → Option α) : Option α :=
  bif k.comparable && v.plain then (match x with
    | .mref o => match h o with
      | some (.mp k' v' l) => mapCastK k' v' k v l fun l => pureK h i k fun a => bif !oidMem o (tvIds y) then pureK h y v fun b =>
          K .hole ((bif v.hasSlice then killAll (tvIds y) else []) ++ [(o, some (.mp k v (mset k v a b l)))]) else none
      | _ => none
    | _ => none) else none
/-- What a function has captured. -/
def capsK : TV → (List TV → Option α) → Option α
  | .ncons a as, K => capsK as fun l => K (a :: l)
  | .pv .nil _, K => K []
  | _, _ => none
/-- What is known of a slice's room counts for append alone. -/
def unfull : TV → TV
  | .full t x => .pv (.slice t) x
  | v => v
def unfullE (env : Env) : Env := fun t => unfull (env t)
/-- One operation: what it yields, and what becomes of the heap. 'id' is the first number of objects that it may make. -/
def opK (τ : Nat → Option Ty) (Φ : Nat → Option Sig) (i : Nat) (op : Op) (env : Env) (h : Heap) (K : TV → Delta → Option α) : Option α :=
  let ρ := evalTV (unfullE env)
  match op with
  | .move x | .assign x => K (evalTV env x) []
  | .binOp o t x y _ => binK o (τ t) (ρ x) (ρ y) fun v => K v []
  | .unOp o _ x => unK o (ρ x) fun v => K v []
  | .load t a => match τ t with
    | some T => loadK h T (ρ a) fun v => K v []
    | none => none
  | .store t a v => match τ t with
    | some T => storeK h T (ρ a) (ρ v) fun d => K .hole d
    | none => none
  | .fieldAddr t x f => match τ t with
    | some T => fieldAddrK h T (ρ x) f fun v => K v []
    | none => none
  | .indexAddr t x ix => match τ t with
    | some T => intK (ρ ix) fun _ n => indexAddrK h T (ρ x) n fun v => K v []
    | none => none
  | .index t x ix => match τ t with
    | some T => bif fitB T (ρ x) then intK (ρ ix) fun _ n => indexK (ρ x) n fun v => K v [] else none
    | none => none
  | .field t x f => match τ t with
    | some T => bif fitB T (ρ x) then (match fieldTV (ρ x) f with
      | some v => K v []
      | none => none) else none
    | none => none
  | .alloc t => match τ t with
    | some T => K (.ptr (i, 0) []) [((i, 0), some (.box T (zeroTV T)))]
    | none => none
  | .box t x => match τ t with
    | some T => bif fitB T (ρ x) then K (.ptr (i, 0) []) [((i, 0), some (.box T (ρ x)))] else none
    | none => none
  | .build t parts => match τ t with
    | some T => bif T.isAgg then buildK T (parts.toList.map fun p => (p.1, ρ p.2)) (zeroTV T) fun v => K v [] else none
    | none => none
  | .buildSlice t n parts => match τ t with
    | some (.slice T) => bif Nat.ble n 1000 then buildSliceK h T (parts.toList.map fun p => (p.1, ρ p.2)) (List.replicate n T.dflt) fun xs =>
        K (.own (i, 0)) ((bif T.hasSlice then killAll (partIds T (parts.toList.map fun p => (p.1, ρ p.2))) else []) ++ [((i, 0), some (.vec T xs))]) else none
    | _ => none
  | .makeMap t r => match τ t, r with
    | some (.map k v), none => K (.mref (i, 0)) [((i, 0), some (.mp k v []))]
    | some (.map k v), some x => intK (ρ x) fun _ _ => K (.mref (i, 0)) [((i, 0), some (.mp k v []))]
    | _, _ => none
  | .mapUpdate t m x y | .insert t m x y => match τ t with
    | some (.map k v) => mapSetK h k v (ρ m) (ρ x) (ρ y) K
    | _ => none
  | .lookup t m x ok => match τ t with
    | some (.map k v) => lookupK h k v (ρ m) (ρ x) ok fun r => K r []
    | _ => none
  | .makeSlice t l c => match τ t with
    | some (.slice T) => intK (ρ l) fun _ l => intK (ρ c) fun _ c =>
        bif decide (0 ≤ l) && decide (l ≤ c) && decide (c ≤ (lim : Int)) then K (.own (i, 0)) [((i, 0), some (.vec T (List.replicate l.toNat T.dflt)))] else none
    | _ => none
  | .slice t x lo hi none => match τ t with
    | some T => sliceK h T (ρ x) (lo.map ρ) (hi.map ρ) fun v => K v []
    | none => none
  | .slice t x lo hi (some m) => match τ t with
    | some T => sliceMaxK h T (ρ x) (lo.map ρ) (hi.map ρ) (some (ρ m)) fun v => K v []
    | none => none
  | .convert s t x => match τ s, τ t with
    | some S, some T => bif fitB S (ρ x) then convK h (i, 0) S T (ρ x) K else none
    | _, _ => none
  | .sliceToArrayPointer t x => match τ t with
    | some (.arr n T) => match ρ x with
      | .pv (.slice T') xs => castK (.slice T') (.slice T) xs fun xs => bif decide (n ≤ xs.length) then K (.cptr (.arr n T) (xs.take n)) [] else none
      | _ => none
    | _ => none
  | .extract x f => match ρ x with
    | .tup l => match fieldTV l f with
      | some v => K v []
      | none => none
    | _ => none
  | .nilCheck x => match ρ x with
    | .ptr o p => K (.ptr o p) []
    | .cptr t y => K (.cptr t y) []
    | .fn f c => K (.fn f c) []
    | _ => none
  | .makeFunc (.func f) first caps => bif Nat.beq first.size 0 then K (.fn f (tvList (caps.toList.map ρ))) [] else none
  | .call c => match c.callee with
    | .builtin .len => match c.args.toList.map ρ, c.argTypes.toList with
      | [v], t :: _ => match τ t with
        | some T => bif fitB T v then lenK h v fun n => K (.pv (.int .i64) n) [] else none
        | none => none
      | _, _ => none
    | .builtin .append => match c.args.toList.map (evalTV env), c.argTypes.toList with
      | [s, x], [t, u] => match τ t, τ u with
        | some (.slice T), some (.slice _) => appendK h (i, 0) T s x K
        | some (.slice T), some .str => appendK h (i, 0) T s x K
        | _, _ => none
      | _, _ => none
    | .builtin .copy => match c.args.toList.map ρ, c.argTypes.toList with
      | [d, x], [t, _] => match τ t with
        | some (.slice T) => copyK h T d x K
        | _ => none
      | _, _ => none
    | .builtin .cap => match c.args.toList.map ρ, c.argTypes.toList with
      | [.nils], t :: _ => match τ t with
        | some (.slice _) => K (.pv (.int .i64) 0) []
        | _ => none
      | _, _ => none
    | .builtin .min => minMaxK false (c.args.toList.map ρ) fun v => K v []
    | .builtin .max => minMaxK true (c.args.toList.map ρ) fun v => K v []
    | .value f => match ρ f with
      | .fn f caps => match Φ f with
        | some g => capsK caps fun l => callK g i (c.args.toList.map ρ ++ l) h K
        | none => none
      | _ => none
    | _ => none
  | _ => none
end
end Go.PE
end

section
namespace Go.PE
set_option linter.unusedSimpArgs false
section
variable {α β : Type}
theorem bif_bind {c : Bool} {a b : Option β} {K : β → Option α} : (bif c then a else b).bind K = bif c then a.bind K else b.bind K := by cases c <;> rfl
theorem castK_bind {t t' : Ty} {x : t.den} {M : t'.den → Option β} {K : β → Option α} : (castK t t' x M).bind K = castK t t' x fun y => (M y).bind K := by
  unfold castK; split <;> rfl
theorem mapCastK_bind {k v k' v' : Ty} {l : List (k.den × v.den)} {M : List (k'.den × v'.den) → Option β} {K : β → Option α} : (mapCastK k v k' v' l M).bind K = mapCastK k v k' v' l fun y => (M y).bind K := by
  unfold mapCastK; split
  · split <;> rfl
  · rfl
theorem pvK_bind {t : Ty} {v : TV} {M : t.den → Option β} {K : β → Option α} : (pvK t v M).bind K = pvK t v fun y => (M y).bind K := by
  unfold pvK; split <;> first | rfl | exact castK_bind
theorem intK_bind {v : TV} {M : IntKind → Int → Option β} {K : β → Option α} : (intK v M).bind K = intK v fun k n => (M k n).bind K := by
  unfold intK; split <;> rfl
theorem tgetK_arr {p : List Nat} {i n : Nat} {t : Ty} {xs : List t.den} {K : TV → Option α} :
    tgetK (i :: p) (.pv (.arr n t) xs) K = (xs[i]?).bind fun x => tgetK p (.pv t x) K := rfl
/-- Not an array that is pure. -/
def NotArr (c : TV) : Prop := ∀ (n : Nat) (t : Ty) (xs : (Ty.arr n t).den), c = .pv (.arr n t) xs → False
theorem arr_or (c : TV) : (∃ (n : Nat) (t : Ty) (xs : (Ty.arr n t).den), c = .pv (.arr n t) xs) ∨ NotArr c := by
  cases c with
  | pv t x => cases t <;> first | (exact .inl ⟨_, _, _, rfl⟩) | (exact .inr (fun n t xs h => by cases h))
  | _ => exact .inr (fun n t xs h => by cases h)
theorem tgetK_field {p : List Nat} {i : Nat} {c : TV} {K : TV → Option α} (h : NotArr c) :
    tgetK (i :: p) c K = match fieldTV c i with | some v => tgetK p v K | none => none := by
  rw [tgetK.eq_def]
  split
  · rename_i h'; cases h'
  · rename_i h'; exact (h _ _ _ rfl).elim
  · rename_i heq _; cases heq; rfl
theorem tsetK_arr {p : List Nat} {i n : Nat} {t : Ty} {xs : List t.den} {v : TV} {K : TV → Option α} :
    tsetK (i :: p) (.pv (.arr n t) xs) v K = (xs[i]?).bind fun x => tsetK p (.pv t x) v fun c => pvK t c fun y => K (.pv (.arr n t) (xs.set i y)) := rfl
theorem tsetK_field {p : List Nat} {i : Nat} {c v : TV} {K : TV → Option α} (h : NotArr c) :
    tsetK (i :: p) c v K = match fieldTV c i with
      | some c₀ => tsetK p c₀ v fun c' => match setField c i c' with
        | some c₂ => K c₂
        | none => none
      | none => none := by
  rw [tsetK.eq_def]
  split
  · rename_i h'; cases h'
  · rename_i h'; exact (h _ _ _ rfl).elim
  · rename_i heq _; cases heq; rfl
theorem tgetK_bind : ∀ {p : List Nat} {c : TV} {M : TV → Option β} {K : β → Option α}, (tgetK p c M).bind K = tgetK p c fun y => (M y).bind K := by
  intro p
  induction p with
  | nil => intros; rfl
  | cons i p ih =>
    intro c M K
    rcases arr_or c with ⟨n, t, xs, rfl⟩ | h
    · simp only [tgetK_arr, Option.bind_assoc, ih]
    · rw [tgetK_field h, tgetK_field h]
      cases fieldTV c i with
      | none => rfl
      | some v => exact ih
theorem tsetK_bind : ∀ {p : List Nat} {c v : TV} {M : TV → Option β} {K : β → Option α}, (tsetK p c v M).bind K = tsetK p c v fun y => (M y).bind K := by
  intro p
  induction p with
  | nil => intros; rfl
  | cons i p ih =>
    intro c v M K
    rcases arr_or c with ⟨n, t, xs, rfl⟩ | h
    · simp only [tsetK_arr, Option.bind_assoc, ih, pvK_bind]
    · rw [tsetK_field h, tsetK_field h]
      cases fieldTV c i with
      | none => rfl
      | some v =>
        show (tsetK _ _ _ _).bind K = tsetK _ _ _ _
        rw [ih]; congr 1; funext c'; split <;> rfl
theorem rowK_bind {h : Heap} {o : Oid} {p : List Nat} {M : (t : Ty) → List t.den → Option β} {K : β → Option α} : (rowK h o p M).bind K = rowK h o p fun t xs => (M t xs).bind K := by
  unfold rowK; split
  · rfl
  · rw [tgetK_bind]; congr 1; funext v; split <;> rfl
  · rfl
theorem pureK_bind {h : Heap} : ∀ {v : TV} {T : Ty} {M : T.den → Option β} {K : β → Option α}, (pureK h v T M).bind K = pureK h v T fun y => (M y).bind K := by
  intro v
  induction v with
  | pv t x => intro T M K; simp only [pureK, castK_bind]
  | full t x => intro T M K; simp only [pureK, castK_bind]
  | nils => intro T M K; cases T <;> rfl
  | own o => intro T M K; cases T <;> simp only [pureK, rowK_bind, castK_bind, Option.bind_none]
  | hdr o p off len => intro T M K; cases T <;> simp only [pureK, rowK_bind, castK_bind, Option.bind_none]
  | ncons a as ih ih' => intro T M K; cases T <;> simp only [pureK, ih, ih', Option.bind_none]
  | _ => intro T M K; cases T <;> rfl
theorem matchK_bind {h : Heap} : ∀ {T : TT} {v : TV} {b : Bind} {M : T.den → Bind → Option β} {K : β → Option α}, (matchK h T v b M).bind K = matchK h T v b fun x b => (M x b).bind K := by
  intro T
  induction T with
  | hole t => intro v b M K; simp only [matchK, pureK_bind]
  | cptr t =>
    intro v b M K
    cases v <;> simp only [matchK, castK_bind, Option.bind_none]
    split <;> simp only [tgetK_bind, pureK_bind, Option.bind_none]
  | own j => intro v b M K; simp only [matchK]; repeat' (split <;> (try rfl) <;> (try exact bif_bind))
  | ptr j p =>
    intro v b M K; simp only [matchK]
    split
    · rw [bif_bind]; congr 1; split <;> first | rfl | exact bif_bind
    · rfl
  | mref j =>
    intro v b M K; simp only [matchK]
    split
    · split <;> first | rfl | exact bif_bind
    · rfl
  | ncons A B ih ih' => intro v b M K; cases v <;> simp only [matchK, ih, ih', Option.bind_none]; split <;> simp only [ih, ih', Option.bind_none]
  | fn f C ih => intro v b M K; cases v <;> simp only [matchK, Option.bind_none, bif_bind, ih]
  | nnil => intro v b M K; unfold matchK; split <;> first | rfl | simp_all
  | _ => intro v b M K; cases v <;> simp only [matchK, Option.bind_none]
theorem matchesK_bind {h : Heap} : ∀ {l : List TT} {vs : List TV} {b : Bind} {M : TT.dens l → Bind → Option β} {K : β → Option α},
    (matchesK h l vs b M).bind K = matchesK h l vs b fun x b => (M x b).bind K := by
  intro l
  induction l with
  | nil => intro vs b M K; cases vs <;> rfl
  | cons T l ih => intro vs b M K; cases vs <;> simp only [matchesK, matchK_bind, ih, Option.bind_none]
theorem objK_bind {h : Heap} {T : OT} {s : Src} {b : Bind} {M : T.den → Bind → Option β} {K : β → Option α} :
    (objK h T s b M).bind K = objK h T s b fun x b => (M x b).bind K := by
  cases T <;> cases s <;> simp only [objK, Option.bind_none]
  all_goals (split <;> simp only [bif_bind, castK_bind, mapCastK_bind, matchK_bind, Option.bind_none])
theorem objsK_bind {h : Heap} : ∀ {l : List OT} {j : Nat} {b : Bind} {M : OT.dens l → Bind → Option β} {K : β → Option α},
    (objsK h l j b M).bind K = objsK h l j b fun x b => (M x b).bind K := by
  intro l
  induction l with
  | nil => intros; rfl
  | cons T l ih => intro j b M K; simp only [objsK, objK_bind, ih]
theorem coerceK_bind {h : Heap} {ts : List TT} {os : List OT} {vs : List TV} {b : Bind} {M : TT.dens ts × OT.dens os → Bind → Option β} {K : β → Option α} :
    (coerceK h ts os vs b M).bind K = coerceK h ts os vs b fun x b => (M x b).bind K := by
  simp only [coerceK, matchesK_bind, objsK_bind, bif_bind, Option.bind_none]
theorem Sig.FK_bind {g : Sig} {v : TT.dens g.ins × OT.dens g.inObs} {M : TT.dens g.outs × OT.dens g.outObs → Option β} {K : β → Option α} :
    (g.FK v M).bind K = g.FK v fun y => (M y).bind K := by
  rw [g.nat v M, g.nat v (fun y => (M y).bind K), Option.bind_assoc]
theorem callK_bind {g : Sig} {i : Nat} {vs : List TV} {h : Heap} {M : TV → Delta → Option β} {K : β → Option α} :
    (callK g i vs h M).bind K = callK g i vs h fun v d => (M v d).bind K := by
  simp only [callK, coerceK_bind, Sig.FK_bind]
theorem intBinK_bind {op : BinOp} {k k' : IntKind} {a b : Int} {M : TV → Option β} {K : β → Option α} :
    (intBinK op k a k' b M).bind K = intBinK op k a k' b fun v => (M v).bind K := by
  cases op <;> simp only [intBinK, bif_bind, Option.bind_none]
theorem strBinK_bind {op : BinOp} {a b : List Int} {M : TV → Option β} {K : β → Option α} :
    (strBinK op a b M).bind K = strBinK op a b fun v => (M v).bind K := by
  cases op <;> simp only [strBinK, bif_bind, Option.bind_none]
theorem eqBinK_bind {op : BinOp} {T : Option Ty} {x y : TV} {M : TV → Option β} {K : β → Option α} : (eqBinK op T x y M).bind K = eqBinK op T x y fun v => (M v).bind K := by
  unfold eqBinK; split
  · rw [castK_bind]; congr 1; funext a; rw [castK_bind]; congr 1; funext b; rw [bif_bind]; congr 1; split <;> rfl
  · rfl
theorem binK_bind {op : BinOp} {T : Option Ty} {x y : TV} {M : TV → Option β} {K : β → Option α} : (binK op T x y M).bind K = binK op T x y fun v => (M v).bind K := by
  unfold binK; split
  · exact intBinK_bind
  · exact strBinK_bind
  · exact eqBinK_bind
theorem unK_bind {op : UnOp} {x : TV} {M : TV → Option β} {K : β → Option α} : (unK op x M).bind K = unK op x fun v => (M v).bind K := by
  unfold unK; split <;> rfl
theorem srcK_bind {h : Heap} {v : TV} {t : Ty} {M : List t.den → Option β} {K : β → Option α} : (srcK h v t M).bind K = srcK h v t fun v => (M v).bind K := by
  unfold srcK; split <;> simp only [castK_bind, pureK_bind]
theorem lenK_bind {h : Heap} {v : TV} {M : Int → Option β} {K : β → Option α} : (lenK h v M).bind K = lenK h v fun v => (M v).bind K := by
  unfold lenK; split <;> first | rfl | (split <;> rfl)
theorem appendK_bind {h : Heap} {i : Oid} {t : Ty} {s x : TV} {M : TV → Delta → Option β} {K : β → Option α} :
    (appendK h i t s x M).bind K = appendK h i t s x fun v d => (M v d).bind K := by
  unfold appendK; rw [srcK_bind]; congr 1; funext ys; split <;> simp only [rowK_bind, castK_bind, bif_bind, Option.bind_none]
theorem copyK_bind {h : Heap} {t : Ty} {s x : TV} {M : TV → Delta → Option β} {K : β → Option α} :
    (copyK h t s x M).bind K = copyK h t s x fun v d => (M v d).bind K := by
  unfold copyK; rw [srcK_bind]; congr 1; funext ys; split <;> simp only [rowK_bind, castK_bind, Option.bind_none]
  split <;> simp only [castK_bind, bif_bind, Option.bind_none]
theorem boundK_bind {v : Option TV} {d m : Nat} {M : Nat → Option β} {K : β → Option α} : (boundK v d m M).bind K = boundK v d m fun v => (M v).bind K := by
  unfold boundK; split <;> simp only [bif_bind, Option.bind_none]
theorem sliceK_bind {h : Heap} {T : Ty} {x : TV} {lo hi : Option TV} {M : TV → Option β} {K : β → Option α} : (sliceK h T x lo hi M).bind K = sliceK h T x lo hi fun v => (M v).bind K := by
  unfold sliceK; split <;> simp only [boundK_bind, rowK_bind, bif_bind, Option.bind_none]
  · cases T <;> simp only [boundK_bind, Option.bind_none]
  · split <;> try rfl
    split <;> simp only [boundK_bind, rowK_bind, bif_bind, Option.bind_none]
theorem sliceMaxK_bind {h : Heap} {T : Ty} {x : TV} {lo hi m : Option TV} {M : TV → Option β} {K : β → Option α} : (sliceMaxK h T x lo hi m M).bind K = sliceMaxK h T x lo hi m fun v => (M v).bind K := by
  unfold sliceMaxK; split <;> simp only [boundK_bind, rowK_bind, bif_bind, Option.bind_none]
  cases T <;> simp only [boundK_bind, bif_bind, Option.bind_none]
theorem fieldAddrK_bind {h : Heap} {T : Ty} {x : TV} {f : Nat} {M : TV → Option β} {K : β → Option α} : (fieldAddrK h T x f M).bind K = fieldAddrK h T x f fun v => (M v).bind K := by
  unfold fieldAddrK; rw [bif_bind]; congr 1; split
  · split
    · split <;> simp only [bif_bind, Option.bind_none]
    · split
      · rfl
      · split <;> simp only [bif_bind, Option.bind_none]
    · rfl
  · rw [bif_bind]; congr 1; split <;> rfl
  · rfl
theorem indexAddrK_bind {h : Heap} {T : Ty} {x : TV} {i : Int} {M : TV → Option β} {K : β → Option α} : (indexAddrK h T x i M).bind K = indexAddrK h T x i fun v => (M v).bind K := by
  unfold indexAddrK; split <;> simp only [bif_bind, rowK_bind, Option.bind_none]
  split <;> try rfl
  split <;> simp only [bif_bind, Option.bind_none]
theorem indexK_bind {x : TV} {i : Int} {M : TV → Option β} {K : β → Option α} : (indexK x i M).bind K = indexK x i fun v => (M v).bind K := by
  unfold indexK; split <;> simp only [bif_bind, Option.bind_none]
theorem loadK_bind {h : Heap} {T : Ty} {x : TV} {M : TV → Option β} {K : β → Option α} : (loadK h T x M).bind K = loadK h T x fun v => (M v).bind K := by
  unfold loadK; split
  · simp only [bif_bind, Option.bind_none]
  · split
    · simp only [tgetK_bind, bif_bind, Option.bind_none]
    · split
      · rfl
      · simp only [Option.bind_assoc, tgetK_bind, bif_bind, Option.bind_none]
    · rfl
  · rfl
theorem storeK_bind {h : Heap} {T : Ty} {x v : TV} {M : Delta → Option β} {K : β → Option α} : (storeK h T x v M).bind K = storeK h T x v fun v => (M v).bind K := by
  unfold storeK; split
  · split
    · split
      · simp only [tsetK_bind, bif_bind, Option.bind_none]
      · rfl
    · split
      · rfl
      · split
        · simp only [bif_bind, pureK_bind, Option.bind_assoc, tsetK_bind, pvK_bind, Option.bind_none]
        · rfl
    · rfl
  · rfl
theorem convK_bind {h : Heap} {i : Oid} {S T : Ty} {x : TV} {M : TV → Delta → Option β} {K : β → Option α} : (convK h i S T x M).bind K = convK h i S T x fun v d => (M v d).bind K := by
  unfold convK; split <;> simp only [pureK_bind, bif_bind, Option.bind_none]
theorem buildK_bind {T : Ty} : ∀ {l : List (Nat × TV)} {c : TV} {M : TV → Option β} {K : β → Option α}, (buildK T l c M).bind K = buildK T l c fun v => (M v).bind K := by
  intro l
  induction l with
  | nil => intros; rfl
  | cons p l ih =>
    intro c M K
    simp only [buildK]
    split
    · simp only [tsetK_bind, bif_bind, Option.bind_none, ih]
    · rfl
theorem buildSliceK_bind {h : Heap} {t : Ty} : ∀ {l : List (Nat × TV)} {xs : List t.den} {M : List t.den → Option β} {K : β → Option α},
    (buildSliceK h t l xs M).bind K = buildSliceK h t l xs fun v => (M v).bind K := by
  intro l
  induction l with
  | nil => intros; rfl
  | cons p l ih => intro c M K; simp only [buildSliceK, bif_bind, Option.bind_none, pureK_bind, ih]
theorem minMaxK_bind {m : Bool} {l : List TV} {M : TV → Option β} {K : β → Option α} : (minMaxK m l M).bind K = minMaxK m l fun v => (M v).bind K := by
  unfold minMaxK; split <;> simp only [bif_bind, Option.bind_none]
theorem capsK_bind : ∀ {v : TV} {M : List TV → Option β} {K : β → Option α}, (capsK v M).bind K = capsK v fun l => (M l).bind K := by
  intro v
  induction v with
  | ncons a as _ ih => intro M K; simp only [capsK]; exact ih
  | pv t x => intro M K; cases t <;> rfl
  | _ => intros; rfl
theorem mapK_bind {h : Heap} {x : TV} {k v : Ty} {M : List (k.den × v.den) → Option β} {K : β → Option α} : (mapK h x k v M).bind K = mapK h x k v fun l => (M l).bind K := by
  unfold mapK; split
  · rfl
  · split
    · exact mapCastK_bind
    · rfl
  · rfl
theorem lookupK_bind {h : Heap} {k v : Ty} {x i : TV} {ok : Bool} {M : TV → Option β} {K : β → Option α} : (lookupK h k v x i ok M).bind K = lookupK h k v x i ok fun r => (M r).bind K := by
  unfold lookupK; rw [bif_bind]; congr 1; rw [mapK_bind]; congr 1; funext l; rw [pureK_bind]; congr 1; funext a; cases ok <;> rfl
theorem mapSetK_bind {h : Heap} {k v : Ty} {x i y : TV} {M : TV → Delta → Option β} {K : β → Option α} : (mapSetK h k v x i y M).bind K = mapSetK h k v x i y fun r d => (M r d).bind K := by
  unfold mapSetK; rw [bif_bind]; congr 1; split
  · split
    · rw [mapCastK_bind]; congr 1; funext l; rw [pureK_bind]; congr 1; funext a; rw [bif_bind]; congr 1; rw [pureK_bind]
    · rfl
  · rfl
theorem opK_bind {τ : Nat → Option Ty} {Φ : Nat → Option Sig} {i : Nat} {op : Op} {env : Env} {h : Heap} {M : TV → Delta → Option β} {K : β → Option α} :
    (opK τ Φ i op env h M).bind K = opK τ Φ i op env h fun v d => (M v d).bind K := by
  unfold opK
  split <;> (try rfl) <;> (try simp only [binK_bind, unK_bind, bif_bind, Option.bind_none])
  all_goals try (split <;> (try rfl) <;> (try simp only [loadK_bind, storeK_bind, fieldAddrK_bind, indexAddrK_bind, indexK_bind, intK_bind, bif_bind, buildK_bind, buildSliceK_bind, sliceK_bind, sliceMaxK_bind, convK_bind, mapSetK_bind, lookupK_bind, Option.bind_none]))
  all_goals try (split <;> (try rfl) <;> (try simp only [castK_bind, bif_bind, lenK_bind, appendK_bind, copyK_bind, minMaxK_bind, capsK_bind, callK_bind, Option.bind_none]))
  all_goals try (congr 1; split <;> rfl)
  all_goals try exact minMaxK_bind
  all_goals try (split <;> (try rfl) <;> (try simp only [castK_bind, bif_bind, lenK_bind, appendK_bind, copyK_bind, minMaxK_bind, capsK_bind, callK_bind, Option.bind_none]))
end
end Go.PE
end

section
namespace Go.PE

structure Blk where
  FK : {α : Type} → S → (Ex → S → Option α) → Option α
  nat : ∀ {α : Type} (s : S) (K : Ex → S → Option α), FK s K = (FK s fun e s' => some (e, s')).bind fun p => K p.1 p.2

/-- What a package's variables hold. -/
structure GV where
  t : Ty
  x : t.den
abbrev Gl := Nat → Option GV
/-- What the evaluator is given of a program: types, callees. -/
structure Cx where
  ty : Nat → Option Ty
  fns : Nat → Option Sig
  size : Nat          -- the number of temporaries
  own : Nat           -- the number of the caller's objects
  fro : List Nat      -- temporaries that are not to be written
  gl : Gl             -- package variables that are known
  alts : List (Nat × Nat)   -- which form of a callee is meant, by the call's temporary
def altOf : List (Nat × Nat) → Option Nat → Nat
  | _, none => 0
  | [], _ => 0
  | (t, j) :: l, some d => bif Nat.beq d t then j else altOf l (some d)
/-- The callees in their forms number j. -/
def formOf (Φ : Nat → Option Sig) (j : Nat) : Nat → Option Sig := fun k => bif Nat.blt k 100000 then Φ (k + 100000 * j) else none
def Cx.at (C : Cx) (d : Option Nat) : Cx := { C with fns := formOf C.fns (altOf C.alts d) }

def S.put (s : S) (d : Option Nat) (v : TV) : S := match d with
  | some t => { s with env := s.env.put t v }
  | none => s
def natMem (n : Nat) : List Nat → Bool
  | [] => false
  | m :: l => Nat.beq n m || natMem n l
def dstOk (C : Cx) : Option Nat → Bool
  | some t => Nat.blt t C.size && !natMem t C.fro
  | none => true
def dstAt : List Oper → Nat → Option Nat
  | [], _ => none
  | o :: _, 0 => o.dst
  | _ :: l, i + 1 => dstAt l i

/-! ### one operation -/
section
variable {α : Type} (C : Cx) (ops : List Oper)
/-- An operation's value and what becomes of the heap; 'pick' lays what it has learned into the temporaries. -/
def valK (i : Nat) (o : Op) (s : S) (h : Heap) (K : S → TV → Delta → Option α) : Option α :=
  match o with
  | .pick c a b => match c with
    | .tmp t => match s.env t with
      | .pv .bool c => bif c then (let s' := { s with env := s.env.put t (.pv .bool true) }; K s' (evalTV s'.env a) []) else (let s' := { s with env := s.env.put t (.pv .bool false) }; K s' (evalTV s'.env b) [])
      | _ => none
    | _ => none
  | .load t (.global g) => match C.gl g, C.ty t with
    | some v, some T => castK v.t T v.x fun y => K s (.pv T y) []
    | _, _ => none
  | o => opK C.ty C.fns i o s.env h (K s)
/-- Is the operation wanted? -/
def wantK (o : Oper) (s : S) (K : S → Bool → Option α) : Option α :=
  match o.guard with
  | none => K s true
  | some (j, want) => match dstAt ops j with
    | some t => match s.env t with
      | .pv .bool c => bif c then K { s with env := s.env.put t (.pv .bool true) } want else K { s with env := s.env.put t (.pv .bool false) } (!want)
      | .hole => K s false
      | _ => none
    | none => none
def stepK (i : Nat) (o : Oper) (s : S) (K : S → Option α) : Option α :=
  bif dstOk C o.dst then (wantK ops o s fun s w => bif w then valK (C.at o.dst) (s.next + i) o.op s s.heap fun s v d => K { s.put o.dst v with heap := s.heap.puts d } else K (s.put o.dst .hole)) else none
def opsK : List Oper → Nat → S → (S → Option α) → Option α
  | [], _, s, K => K s
  | o :: l, i, s, K => stepK C ops i o s fun s => opsK l (i + 1) s K
end

/-! ### a region that draws its order -/
def operandTmp : Operand → List Nat
  | .tmp t => [t]
  | _ => []
/-- The temporaries that an operation reads. -/
def opLooks (ops : List Oper) (o : Oper) : List Nat :=
  (o.op.operands.toList.flatMap operandTmp) ++ (match o.guard with
    | some (j, _) => match dstAt ops j with
      | some t => [t]
      | none => []
    | none => [])
def obIds : Option Ob → List Oid
  | some (.box _ c) => tvIds c
  | _ => []
def oidUnion : List Oid → List Oid → List Oid
  | [], m => m
  | o :: l, m => bif oidMem o m then oidUnion l m else o :: oidUnion l m
def allIn : List Oid → List Oid → Bool
  | [], _ => true
  | o :: l, m => oidMem o m && allIn l m
/-- What can be come to from some objects. -/
def reach (h : Heap) : Nat → List Oid → List Oid
  | 0, l => l
  | n + 1, l => let m := l.flatMap fun o => obIds (h o)
    bif allIn m l then l else reach h n (oidUnion m l)
def opIds (env : Env) (o : Op) : List Oid := o.operands.toList.flatMap fun x => tvIds (evalTV env x)
/-- Operations that pass a value on look at no object. -/
def blind : Op → Bool
  | .move _ | .assign _ | .extract _ _ => true
  | _ => false
/-- All but a function's call look at what they name alone. -/
def shallow : Op → Bool
  | .call c => match c.callee with
    | .value _ => false
    | _ => true
  | _ => true
def touch (env : Env) (h : Heap) (o : Op) : List Oid := bif blind o then [] else bif shallow o then opIds env o else reach h 20 (opIds env o)
def Heap.only (h : Heap) (l : List Oid) : Heap := fun o => bif oidMem o l then h o else none
def Delta.ids (d : Delta) : List Oid := d.map (·.1)
structure Rec where
  idx : Nat
  dst : Option Nat
  looks : List Nat
  touch : List Oid
  writes : List Oid
def edgeBinds (e : Edge) : Bool := match e.ground with
  | .textOnly _ | .gcOnly _ => false
  | _ => true
/-- The predecessors of each operation, all of them, as bits. -/
def edgesBelow (i : Nat) : List Edge → Bool
  | [] => true
  | e :: l => (!edgeBinds e || Nat.blt e.on i) && edgesBelow i l
def predsOf (es : List Edge) (ps : List Nat) : Nat :=
  es.foldl (fun m e => bif edgeBinds e then m ||| 2 ^ e.on ||| ps.getD e.on 0 else m) 0
def preds : List Oper → List Nat → List Nat
  | [], ps => ps
  | o :: l, ps => preds l (ps ++ [predsOf o.after.toList ps])
def dstIn (d : Option Nat) (l : List Nat) : Bool := match d with
  | some t => natMem t l
  | none => false
def dstEq : Option Nat → Option Nat → Bool
  | some a, some b => Nat.beq a b
  | _, _ => false
/-- Two operations that may change places. -/
def recsApart (a b : Rec) : Bool :=
  !dstIn a.dst b.looks && !dstIn b.dst a.looks && !dstEq a.dst b.dst && oidsApart a.writes b.touch && oidsApart b.writes a.touch && oidsApart a.writes b.writes
def recOk (p : Nat) (r : Rec) : List Rec → Bool
  | [] => true
  | q :: l => (Nat.testBit p q.idx || recsApart q r) && recOk p r l
section
variable {α : Type} (C : Cx) (ops : List Oper)
def drawK : List Oper → List Nat → Nat → List Rec → S → (S → Option α) → Option α
  | [], _, _, _, s, K => K s
  | o :: l, ps, i, rs, s, K =>
    bif dstOk C o.dst && edgesBelow i o.after.toList then (wantK ops o s fun s w => bif w then
      (let T := touch s.env s.heap o.op
       valK (C.at o.dst) (s.next + i) o.op s (s.heap.only T) fun s v d =>
        let r : Rec := ⟨i, o.dst, opLooks ops o, T, d.ids⟩
        bif recOk (ps.headD 0) r rs then drawK l ps.tail (i + 1) (r :: rs) { s.put o.dst v with heap := s.heap.puts d } K else none)
      else
       (let r : Rec := ⟨i, o.dst, opLooks ops o, [], []⟩
        bif recOk (ps.headD 0) r rs then drawK l ps.tail (i + 1) (r :: rs) (s.put o.dst .hole) K else none)) else none
end

/-! ### code -/
inductive Ann where
  | leaf | cut (k : Nat) | one (a : Ann) | two (a b : Ann)
  | frz (ts qs : List Nat)      -- ahead of a region: own slices in temporaries, in boxes, are given up and kept as pure ones
/-- An own slice as a pure one. -/
def thawTV (h : Heap) : TV → TV
  | .own o => match h o with
    | some (.vec t xs) => .pv (.slice t) xs
    | _ => .own o
  | .hdr o p off len => match p, h o with
    | [], some (.vec t xs) => .pv (.slice t) (sub xs off len)
    | p, _ => .hdr o p off len
  | .ncons a as => mkCons (thawTV h a) (thawTV h as)
  | v => v
def thawIds (h : Heap) : TV → List Oid
  | .own o => [o]
  | .hdr o p _ _ => match p with
    | [] => [o]
    | _ => []
  | .ncons a as => thawIds h a ++ thawIds h as
  | _ => []
def frzIds (ts : List Nat) (os : List Oid) (s : S) : List Oid :=
  (ts.flatMap fun t => thawIds s.heap (s.env t)) ++ (os.flatMap fun o => match s.heap o with
    | some (.box _ c) => thawIds s.heap c
    | _ => [])
def frzBox (h : Heap) : Option Ob → Option Ob
  | some (.box T c) => bif fitB T (thawTV h c) then some (.box T (thawTV h c)) else some (.box T c)
  | b => b
def frzS (ts : List Nat) (os : List Oid) (s : S) : S :=
  { env := fun t => bif natMem t ts then thawTV s.heap (s.env t) else s.env t,
    heap := fun p => bif oidMem p (frzIds ts os s) then none else bif oidMem p os then frzBox s.heap (s.heap p) else s.heap p,
    next := s.next }
def boxOids (s : S) : List Nat → List Oid
  | [] => []
  | t :: l => match s.env t with
    | .ptr o _ => o :: boxOids s l
    | _ => boxOids s l
def frzA : Ann → S → S
  | .frz ts qs, s => frzS ts (boxOids s qs) s
  | _, s => s
def Ann.l : Ann → Ann
  | .one a | .two a _ => a
  | _ => .leaf
def Ann.r : Ann → Ann
  | .two _ b => b
  | _ => .leaf
section
variable {α : Type} (C : Cx) (G : Nat → Option Blk)
def runK : Code → Ann → S → (Ex → S → Option α) → Option α
  | .skip, .cut k, s, K | .ret, .cut k, s, K | .exit _, .cut k, s, K | .region _ _ _, .cut k, s, K | .seq _ _, .cut k, s, K | .cond _ _ _, .cut k, s, K | .block _ _, .cut k, s, K | .loop _, .cut k, s, K =>
    match G k with
    | some g => g.FK s K
    | none => none
  | .skip, _, s, K => K .normal s
  | .ret, _, s, K => K .ret s
  | .exit id, _, s, K => K (.exit id) s
  | .region _ ops draw, A, s, K =>
    bif draw then drawK C ops.toList ops.toList (preds ops.toList []) 0 [] (frzA A s) fun s => K .normal { s with next := s.next + ops.size }
    else opsK C ops.toList ops.toList 0 (frzA A s) fun s => K .normal { s with next := s.next + ops.size }
  | .seq a b, A, s, K => runK a A.l s fun e s' => match e with
    | .normal => runK b A.r s' K
    | e => K e s'
  | .cond c a b, A, s, K => match c with
    | .tmp t => match s.env t with
      | .pv .bool c => bif c then runK a A.l { s with env := s.env.put t (.pv .bool true) } K else runK b A.r { s with env := s.env.put t (.pv .bool false) } K
      | _ => none
    | .const (.bool c) => bif c then runK a A.l s K else runK b A.r s K
    | _ => none
  | .block id c, A, s, K => runK c A.l s fun e s' => match e with
    | .exit j => bif Nat.beq j id then K .normal s' else K (.exit j) s'
    | e => K e s'
  | _, _, _, _ => none
end

/-! ### functions -/
def nthTV : List TV → Nat → TV
  | [], _ => .undef
  | v :: _, 0 => v
  | _ :: l, i + 1 => nthTV l i
def startEnv (l : List TV) : Env := fun t => nthTV l t
def startS {ts : List TT} {os : List OT} (v : TT.dens ts × OT.dens os) : S :=
  { env := startEnv (TT.fills ids0 ts v.1), heap := Heap.puts (fun _ => none) (OT.fills ids0 os v.2 0), next := os.length }
def preBind : List OT → Nat → Nat → Bind → Bind
  | [], _, _, b => b
  | _ :: _, _, 0, b => b
  | .dead :: l, j, n + 1, b => preBind l (j + 1) n b
  | _ :: l, j, n + 1, b => preBind l (j + 1) n (b.set j (.obj (j, 0)))
section
variable {α : Type} (C : Cx)
def resK (s : S) : List ResultVar → (List TV → Option α) → Option α
  | [], K => K []
  | .tmp t :: l, K => resK s l fun vs => K (s.env t :: vs)
  | .cell a t :: l, K => match C.ty t with
    | some T => loadK s.heap T (s.env a) fun v => resK s l fun vs => K (v :: vs)
    | none => none
def finK (g : Sig) (rs : List ResultVar) (s : S) (K : TT.dens g.outs × OT.dens g.outObs → Option α) : Option α :=
  resK C s rs fun vs => coerceK s.heap g.outs g.outObs vs (preBind g.outObs 0 g.inObs.length .empty) fun r _ => K r
def fnK (G : Nat → Option Blk) (A : Ann) (c : Code) (rs : List ResultVar) (g : Sig) (v : TT.dens g.ins × OT.dens g.inObs) (K : TT.dens g.outs × OT.dens g.outObs → Option α) : Option α :=
  runK C G c A (startS v) fun e s => match e with
    | .ret | .normal => finK C g rs s K
    | _ => none
end

/-! ### loops and joins -/
structure Tm where
  env : List (Nat × TT)
  obs : List OT
@[reducible] def Tm.tts (T : Tm) : List TT := T.env.map (·.2)
abbrev Tm.den (T : Tm) : Type := TT.dens T.tts × OT.dens T.obs
def envOf : (l : List (Nat × TT)) → TT.dens (l.map (·.2)) → Env
  | [], _ => fun _ => .undef
  | (t, T) :: l, x => fun u => bif Nat.beq u t then T.fill ids0 x.1 else envOf l x.2 u
def Tm.fill (T : Tm) (v : T.den) : S :=
  { env := envOf T.env v.1, heap := Heap.puts (fun _ => none) (OT.fills ids0 T.obs v.2 0), next := T.obs.length }
def Tm.matchK {α : Type} (m : Nat) (T : Tm) (s : S) (K : T.den → Option α) : Option α :=
  bif Nat.ble m T.obs.length then coerceK s.heap T.tts T.obs (T.env.map fun p => s.env p.1) (preBind T.obs 0 m .empty) fun v _ => K v else none
def exBeq : Ex → Ex → Bool
  | .normal, .normal | .ret, .ret => true
  | .exit a, .exit b => Nat.beq a b
  | _, _ => false
/-- The ways out of a piece of code. -/
inductive Outs where
  | one (e : Ex) (T : Tm) | more (e : Ex) (T : Tm) (l : Outs)
@[reducible] def Outs.V : Outs → Type
  | .one _ T => T.den
  | .more _ T l => T.den ⊕ l.V
section
variable {α : Type}
def Outs.matchK (m : Nat) : (U : Outs) → Ex → S → (U.V → Option α) → Option α
  | .one e T, x, s, K => bif exBeq x e then T.matchK m s K else none
  | .more e T l, x, s, K => bif exBeq x e then T.matchK m s (fun v => K (.inl v)) else l.matchK m x s (fun v => K (.inr v))
def Outs.fillK : (U : Outs) → U.V → (Ex → S → Option α) → Option α
  | .one e T => fun v K => K e (T.fill v)
  | .more e T l => fun o K => match o with
    | .inl v => K e (T.fill v)
    | .inr v => l.fillK v K
def bodyK (C : Cx) (G : Nat → Option Blk) (c : Code) (A : Ann) (T : Tm) (U : Outs) (s : S) (kn : T.den → Option α) (ko : U.V → Option α) : Option α :=
  runK C G c A s fun e s => match e with
    | .normal => T.matchK C.own s kn
    | e => U.matchK C.own e s ko
def joinK (C : Cx) (G : Nat → Option Blk) (c : Code) (A : Ann) (U : Outs) (s : S) (ko : U.V → Option α) : Option α :=
  runK C G c A s fun e s => U.matchK C.own e s ko
end
/-- A loop's rounds. -/
def iter {σ ω : Type} (step : σ → Option (σ ⊕ ω)) : Nat → σ → Option ω
  | 0, _ => none
  | n + 1, v => (step v).bind fun x => match x with
    | .inl v => iter step n v
    | .inr o => some o
open Classical in
noncomputable def loopV {σ ω : Type} (step : σ → Option (σ ⊕ ω)) (v : σ) : Option ω :=
  if h : ∃ n o, iter step n v = some o then some h.choose_spec.choose else none
/-- A function that calls itself, at most n calls deep. -/
def fixN {α β : Type} (R : (α → Option β) → α → Option β) : Nat → α → Option β
  | 0 => fun _ => none
  | n + 1 => R (fixN R n)
def fuel : Nat := 1000000000
/-! ### a cut's frame and its constants -/
@[reducible] def KT.den : List (Nat × Ty) → Type
  | [] => Unit
  | p :: l => p.2.den × KT.den l
def constsK {α : Type} (env : Env) : (l : List (Nat × Ty)) → (KT.den l → Option α) → Option α
  | [], K => K ()
  | (t, T) :: l, K => pvK T (env t) fun x => constsK env l fun y => K (x, y)
def envK : (l : List (Nat × Ty)) → KT.den l → Env
  | [], _ => fun _ => .undef
  | (t, T) :: l, k => fun u => bif Nat.beq u t then .pv T k.1 else envK l k.2 u
def orTV : TV → TV → TV
  | .undef, v => v
  | v, _ => v
def withK (l : List (Nat × Ty)) (k : KT.den l) (s : S) : S := { s with env := fun t => orTV (s.env t) (envK l k t) }
def noIds (v : TV) : Bool := match tvIds v with
  | [] => true
  | _ => false
def frameS (l : List Nat) (s s' : S) : S := { s' with env := fun t => orTV (s'.env t) (bif natMem t l && noIds (s.env t) then s.env t else .undef) }
def Cx.fr (C : Cx) (l : List Nat) : Cx := { C with fro := l ++ C.fro }
def constsIn (l : List Nat) : List (Nat × Ty) → Bool
  | [] => true
  | p :: k => natMem p.1 l && constsIn l k
def frBlk (m : Nat) (l : List Nat) (T0 : List (Nat × Ty)) (T : Tm) (U : Outs) (F : KT.den T0 → T.den → Option U.V) : Blk where
  FK s K := constsK s.env T0 fun k => T.matchK m s fun v => (F k v).bind fun o => U.fillK o fun e s' => K e (frameS l s s')
  nat s K := by
    have hU : ∀ {β γ : Type} (U : Outs) (o : U.V) (M : Ex → S → Option β) (K : β → Option γ), (U.fillK o M).bind K = U.fillK o fun e s => (M e s).bind K := by
      intro β γ U
      induction U with
      | one e T => intros; rfl
      | more e T l ih => intro o M K; cases o with
        | inl v => rfl
        | inr v => exact ih v M K
    have hT : ∀ {β γ : Type} (M : T.den → Option β) (K : β → Option γ), (T.matchK m s M).bind K = T.matchK m s fun v => (M v).bind K := by
      intro β γ M K
      unfold Tm.matchK
      rw [Go.PE.bif_bind, Go.PE.coerceK_bind]
      rfl
    have hK : ∀ {β γ : Type} (T0 : List (Nat × Ty)) (M : KT.den T0 → Option β) (K : β → Option γ), (constsK s.env T0 M).bind K = constsK s.env T0 fun v => (M v).bind K := by
      intro β γ T0
      induction T0 with
      | nil => intros; rfl
      | cons p l ih => intro M K; simp only [constsK]; rw [Go.PE.pvK_bind]; congr 1; funext x; exact ih _ _
    rw [hK]
    congr 1
    funext k
    rw [hT]
    congr 1
    funext v
    rw [Option.bind_assoc]
    congr 1
    funext o
    rw [hU]
    rfl

end Go.PE
end

section
namespace Go.PE
set_option linter.unusedSimpArgs false
theorem natBeq_eq {a b : Nat} (h : Nat.beq a b = true) : a = b := Nat.eq_of_beq_eq_true h
theorem natBeq_ne {a b : Nat} (h : Nat.beq a b = false) : a ≠ b := Nat.ne_of_beq_eq_false h
theorem natBeq_self (a : Nat) : Nat.beq a a = true := Nat.beq_refl a
theorem natBeq_of_ne {a b : Nat} (h : a ≠ b) : Nat.beq a b = false := by
  cases hb : Nat.beq a b with
  | false => rfl
  | true => exact (h (natBeq_eq hb)).elim
theorem Env.put_self {e : Env} {t : Nat} {v : TV} (h : e t = v) : e.put t v = e := by
  funext u
  unfold Env.put
  cases hb : Nat.beq u t with
  | true => rw [natBeq_eq hb, h]; rfl
  | false => rfl
theorem Env.put_at {e : Env} {t : Nat} {v : TV} : e.put t v t = v := by unfold Env.put; rw [natBeq_self]; rfl
theorem Env.put_ne {e : Env} {t u : Nat} {v : TV} (h : u ≠ t) : e.put t v u = e u := by unfold Env.put; rw [natBeq_of_ne h]; rfl
theorem Env.put_comm {e : Env} {t u : Nat} {v x : TV} (h : t ≠ u) : (e.put t v).put u x = (e.put u x).put t v := by
  funext y
  by_cases h1 : y = u
  · subst h1; rw [Env.put_at, Env.put_ne (Ne.symm h), Env.put_at]
  · by_cases h2 : y = t
    · subst h2; rw [Env.put_ne h1, Env.put_at, Env.put_at]
    · rw [Env.put_ne h1, Env.put_ne h2, Env.put_ne h2, Env.put_ne h1]
theorem S.refine {s : S} {t : Nat} {v : TV} (h : s.env t = v) : ({ s with env := s.env.put t v } : S) = s := by rw [Env.put_self h]

section
variable (C : Cx) (ops : List Oper)
def valD (i : Nat) (o : Op) (s : S) (h : Heap) : Option (TV × Delta) :=
  match o with
  | .pick c a b => match c with
    | .tmp t => match s.env t with
      | .pv .bool c => some (evalTV s.env (bif c then a else b), [])
      | _ => none
    | _ => none
  | .load t (.global g) => match C.gl g, C.ty t with
    | some v, some T => castK v.t T v.x fun y => some (.pv T y, [])
    | _, _ => none
  | o => opK C.ty C.fns i o s.env h fun v d => some (v, d)
def wantD (o : Oper) (s : S) : Option Bool :=
  match o.guard with
  | none => some true
  | some (j, want) => match dstAt ops j with
    | some t => match s.env t with
      | .pv .bool c => some (bif c then want else !want)
      | .hole => some false
      | _ => none
    | none => none
def stepD (i : Nat) (o : Oper) (s : S) : Option S :=
  bif dstOk C o.dst then (match wantD ops o s with
    | some true => (valD (C.at o.dst) (s.next + i) o.op s s.heap).map fun p => { s.put o.dst p.1 with heap := s.heap.puts p.2 }
    | some false => some (s.put o.dst .hole)
    | none => none) else none
def opsD : List Oper → Nat → S → Option S
  | [], _, s => some s
  | o :: l, i, s => (stepD C ops i o s).bind fun s => opsD l (i + 1) s

section
variable {α : Type}
theorem valK_eq {i : Nat} {o : Op} {s : S} {h : Heap} {K : S → TV → Delta → Option α} : valK C i o s h K = (valD C i o s h).bind fun p => K s p.1 p.2 := by
  cases o
  case pick c a b =>
    simp only [valK, valD]
    cases c with
    | tmp t =>
      simp only []
      cases hv : s.env t with
      | pv t' c =>
        cases t' with
        | bool =>
          simp only []
          cases c
          · simp only [cond_false, S.refine hv, Option.bind_some]; rw [Env.put_self hv]
          · simp only [cond_true, S.refine hv, Option.bind_some]; rw [Env.put_self hv]
        | _ => rfl
      | _ => rfl
    | _ => rfl
  case load t x =>
    cases x with
    | global g =>
      simp only [valK, valD]
      cases C.gl g with
      | none => rfl
      | some v =>
        cases C.ty t with
        | none => rfl
        | some T => simp only []; rw [castK_bind]; rfl
    | _ => simp only [valK, valD]; rw [opK_bind]; rfl
  all_goals (simp only [valK, valD]; rw [opK_bind]; rfl)
theorem wantK_eq {o : Oper} {s : S} {K : S → Bool → Option α} : wantK ops o s K = (wantD ops o s).bind fun w => K s w := by
  unfold wantK wantD
  cases o.guard with
  | none => rfl
  | some p =>
    obtain ⟨j, want⟩ := p
    simp only []
    cases dstAt ops j with
    | none => rfl
    | some t =>
      simp only []
      cases hv : s.env t with
      | pv t' c =>
        cases t' with
        | bool =>
          simp only []
          cases c
          · simp only [cond_false, S.refine hv, Option.bind_some]
          · simp only [cond_true, S.refine hv, Option.bind_some]
        | _ => rfl
      | _ => rfl
theorem stepK_eq {i : Nat} {o : Oper} {s : S} {K : S → Option α} : stepK C ops i o s K = (stepD C ops i o s).bind K := by
  unfold stepK stepD
  rw [bif_bind]
  congr 1
  rw [wantK_eq]
  cases wantD ops o s with
  | none => rfl
  | some w =>
    cases w with
    | false => rfl
    | true =>
      simp only [Option.bind_some, cond_true]
      rw [valK_eq]
      cases valD (C.at o.dst) (s.next + i) o.op s s.heap <;> rfl
theorem opsK_eq : ∀ {l : List Oper} {i : Nat} {s : S} {K : S → Option α}, opsK C ops l i s K = (opsD C ops l i s).bind K := by
  intro l
  induction l with
  | nil => intros; rfl
  | cons o l ih => intro i s K; simp only [opsK, opsD]; rw [stepK_eq, Option.bind_assoc]; congr 1; funext s'; exact ih
end

/-- An operation of a region that draws: its effect, read in a heap of what it can come to alone. -/
structure Eff where
  val : TV
  delta : Delta
  touch : List Oid
def effD (i : Nat) (o : Oper) (s : S) : Option Eff :=
  bif dstOk C o.dst && edgesBelow i o.after.toList then (match wantD ops o s with
    | some true => (valD (C.at o.dst) (s.next + i) o.op s (s.heap.only (touch s.env s.heap o.op))).map fun p => ⟨p.1, p.2, touch s.env s.heap o.op⟩
    | some false => some ⟨.hole, [], []⟩
    | none => none) else none
def S.eff (s : S) (o : Oper) (e : Eff) : S := { s.put o.dst e.val with heap := s.heap.puts e.delta }
def recOf (i : Nat) (o : Oper) (e : Eff) : Rec := ⟨i, o.dst, opLooks ops o, e.touch, e.delta.ids⟩
def drawD : List Oper → List Nat → Nat → List Rec → S → Option S
  | [], _, _, _, s => some s
  | o :: l, ps, i, rs, s => (effD C ops i o s).bind fun e =>
    bif recOk (ps.headD 0) (recOf ops i o e) rs then drawD l ps.tail (i + 1) (recOf ops i o e :: rs) (s.eff o e) else none
theorem S.eff_hole {s : S} {o : Oper} : s.eff o ⟨.hole, [], []⟩ = s.put o.dst .hole := by
  unfold S.eff S.put; cases o.dst <;> rfl
theorem drawK_eq {α : Type} : ∀ {l : List Oper} {ps : List Nat} {i : Nat} {rs : List Rec} {s : S} {K : S → Option α},
    drawK C ops l ps i rs s K = (drawD C ops l ps i rs s).bind K := by
  intro l
  induction l with
  | nil => intros; rfl
  | cons o l ih =>
    intro ps i rs s K
    simp only [drawK, drawD, effD]
    cases dstOk C o.dst && edgesBelow i o.after.toList with
    | false => rfl
    | true =>
      simp only [cond_true]
      rw [wantK_eq]
      cases wantD ops o s with
      | none => rfl
      | some w =>
        cases w with
        | false =>
          simp only [Option.bind_some, cond_false]
          rw [bif_bind]
          show (bif recOk _ (recOf ops i o ⟨.hole, [], []⟩) rs then _ else none) = _
          congr 1
          rw [ih, S.eff_hole]; rfl
        | true =>
          simp only [Option.bind_some, cond_true]
          rw [valK_eq]
          cases valD (C.at o.dst) (s.next + i) o.op s (s.heap.only (touch s.env s.heap o.op)) with
          | none => rfl
          | some p =>
            simp only [Option.map_some, Option.bind_some]
            rw [bif_bind]
            show (bif recOk _ (recOf ops i o ⟨p.1, p.2, touch s.env s.heap o.op⟩) rs then _ else none) = _
            congr 1
            rw [ih]; rfl
end

section
variable (C : Cx) (G : Nat → Option Blk)
def regionD (ops : Array Oper) (draw : Bool) (s : S) : Option S :=
  ((bif draw then drawD C ops.toList ops.toList (preds ops.toList []) 0 [] s else opsD C ops.toList ops.toList 0 s)).map fun s => { s with next := s.next + ops.size }
def Blk.D (g : Blk) (s : S) : Option (Ex × S) := g.FK s fun e s' => some (e, s')
def runD : Code → Ann → S → Option (Ex × S)
  | .skip, .cut k, s | .ret, .cut k, s | .exit _, .cut k, s | .region _ _ _, .cut k, s | .seq _ _, .cut k, s | .cond _ _ _, .cut k, s | .block _ _, .cut k, s | .loop _, .cut k, s =>
    (G k).bind fun g => g.D s
  | .skip, _, s => some (.normal, s)
  | .ret, _, s => some (.ret, s)
  | .exit id, _, s => some (.exit id, s)
  | .region _ ops draw, A, s => (regionD C ops draw (frzA A s)).map fun s => (.normal, s)
  | .seq a b, A, s => (runD a A.l s).bind fun p => match p.1 with
    | .normal => runD b A.r p.2
    | e => some (e, p.2)
  | .cond c a b, A, s => match c with
    | .tmp t => match s.env t with
      | .pv .bool c => bif c then runD a A.l s else runD b A.r s
      | _ => none
    | .const (.bool c) => bif c then runD a A.l s else runD b A.r s
    | _ => none
  | .block id c, A, s => (runD c A.l s).bind fun p => match p.1 with
    | .exit j => some (bif Nat.beq j id then .normal else .exit j, p.2)
    | e => some (e, p.2)
  | _, _, _ => none
theorem runK_eq {α : Type} : ∀ {c : Code} {A : Ann} {s : S} {K : Ex → S → Option α}, runK C G c A s K = (runD C G c A s).bind fun p => K p.1 p.2 := by
  intro c
  have hcut : ∀ (k : Nat) (s : S) (K : Ex → S → Option α), (match G k with | some g => g.FK s K | none => none) = ((G k).bind fun g => g.D s).bind fun p => K p.1 p.2 := by
    intro k s K
    cases G k with
    | none => rfl
    | some g => simp only [Option.bind_some]; exact g.nat s K
  induction c with
  | skip => intro A s K; cases A <;> first | rfl | exact hcut _ _ _
  | ret => intro A s K; cases A <;> first | rfl | exact hcut _ _ _
  | exit id => intro A s K; cases A <;> first | rfl | exact hcut _ _ _
  | region id ops draw =>
    intro A s0 K
    generalize hs : frzA A s0 = s
    have hr : (bif draw then drawK C ops.toList ops.toList (preds ops.toList []) 0 [] s fun s => K .normal { s with next := s.next + ops.size }
        else opsK C ops.toList ops.toList 0 s fun s => K .normal { s with next := s.next + ops.size }) = ((regionD C ops draw s).map fun s => (Ex.normal, s)).bind fun p => K p.1 p.2 := by
      unfold regionD
      cases draw with
      | true =>
        simp only [cond_true]; rw [drawK_eq]
        cases drawD C ops.toList ops.toList (preds ops.toList []) 0 [] s <;> rfl
      | false =>
        simp only [cond_false]; rw [opsK_eq]
        cases opsD C ops.toList ops.toList 0 s <;> rfl
    subst hs
    cases A <;> first | exact hr | exact hcut _ _ _
  | seq a b iha ihb =>
    intro A s K
    have hr : (runK C G a A.l s fun e s' => match e with
        | .normal => runK C G b A.r s' K
        | e => K e s') = ((runD C G a A.l s).bind fun p => match p.1 with
        | .normal => runD C G b A.r p.2
        | e => some (e, p.2)).bind fun p => K p.1 p.2 := by
      rw [iha, Option.bind_assoc]
      congr 1; funext p
      obtain ⟨e, s'⟩ := p
      cases e <;> first | rfl | exact ihb
    cases A <;> first | exact hr | exact hcut _ _ _
  | cond c a b iha ihb =>
    intro A s K
    have hr : (match c with
        | .tmp t => match s.env t with
          | .pv .bool c => bif c then runK C G a A.l { s with env := s.env.put t (.pv .bool true) } K else runK C G b A.r { s with env := s.env.put t (.pv .bool false) } K
          | _ => none
        | .const (.bool c) => bif c then runK C G a A.l s K else runK C G b A.r s K
        | _ => none) = (match c with
        | .tmp t => match s.env t with
          | .pv .bool c => bif c then runD C G a A.l s else runD C G b A.r s
          | _ => none
        | .const (.bool c) => bif c then runD C G a A.l s else runD C G b A.r s
        | _ => none : Option (Ex × S)).bind fun p => K p.1 p.2 := by
      cases c with
      | tmp t =>
        simp only []
        cases hv : s.env t with
        | pv t' c =>
          cases t' with
          | bool =>
            simp only []
            cases c
            · simp only [cond_false, S.refine hv]; exact ihb
            · simp only [cond_true, S.refine hv]; exact iha
          | _ => rfl
        | _ => rfl
      | const v =>
        cases v with
        | bool c => cases c; exact ihb; exact iha
        | _ => rfl
      | _ => rfl
    cases A <;> first | exact hr | exact hcut _ _ _
  | block id c ih =>
    intro A s K
    have hr : (runK C G c A.l s fun e s' => match e with
        | .exit j => bif Nat.beq j id then K .normal s' else K (.exit j) s'
        | e => K e s') = ((runD C G c A.l s).bind fun p => match p.1 with
        | .exit j => some (bif Nat.beq j id then .normal else .exit j, p.2)
        | e => some (e, p.2)).bind fun p => K p.1 p.2 := by
      rw [ih, Option.bind_assoc]
      congr 1; funext p
      obtain ⟨e, s'⟩ := p
      cases e <;> try rfl
      rename_i j
      simp only [Option.bind_some]
      cases Nat.beq j id <;> rfl
    cases A <;> first | exact hr | exact hcut _ _ _
  | loop b => intro A s K; cases A <;> first | rfl | exact hcut _ _ _
  | _ => intro A s K; cases A <;> rfl
end
end Go.PE
end

section
namespace Go.PE

/-- Where an object lies. -/
structure Ent where
  vec : Bool
  ty : Ty
  blk : Option Nat
  start : Nat
  len : Nat
  sz : Nat
structure Mp where
  ent : Oid → Option Ent
  used : Oid → Prop
  hid : Nat → Prop     -- blocks of a caller's that are none of one's business

def St (μ : Mp) (w : World) (b : Nat) : Prop := b < w.heap.size ∧ (∀ o e, μ.ent o = some e → e.blk ≠ some b) ∧ ¬ μ.hid b

def Ent.off (e : Ent) (p : List Nat) : Option Nat :=
  match e.vec with
  | false => (e.ty.offs p).map (·.1)
  | true => match p with
    | [] => none
    | i :: p => (e.ty.offs p).map fun q => i * e.ty.size + q.1
/-- A row of elements: its place, its elements' type, their number. -/
def Ent.row (e : Ent) (p : List Nat) : Option (Nat × Ty × Nat) :=
  match e.vec with
  | true => match p with
    | [] => some (0, e.ty, e.len)
    | _ => none
  | false => match e.ty.offs p with
    | some (k, .arr n t) => some (k, t, n)
    | _ => none

def HdrAt (blk : Option Nat) (pos sz lim len : Nat) (v : Value) : Prop :=
  match blk with
  | none => v = .slice none 0 0 ∧ len = 0
  | some b => ∃ off cap, v = .slice (some ⟨b, off, none⟩) len cap ∧ len ≤ cap ∧ off + cap * sz ≤ lim ∧ (cap ≠ 0 → off = pos)

def aggTV : TV → Bool
  | .pv t _ => t.isAgg
  | .ncons _ _ => true
  | _ => false

/-- The cells (false), the values (true) that a value of the evaluator's tells of. -/
def R (μ : Mp) (w : World) : TV → Bool → List Value → Prop
  | .undef, _, _ => True
  | .hole, _, cs => cs = [Go.undef]
  | .pv t x, false, cs => Rep w (St μ w) t x cs
  | .pv t _, true, vs => t = .nil ∧ vs = []
  | .nils, _, cs => cs = [.slice none 0 0]
  | .nilp, _, cs => cs = [.pointer none]
  | .nilf, _, cs => cs = [.nilFunc]
  | .nilm, _, cs => cs = [.map none]
  | .mref o, _, cs => ∃ r, cs = [.map (some r)] ∧ μ.used o ∧ ∀ e, μ.ent o = some e → e.blk = some r
  | .ptr o p, _, cs => ∃ a : Addr, cs = [.pointer (some a)] ∧ μ.used o ∧ ∀ e, μ.ent o = some e → ∃ k, e.off p = some k ∧ e.blk = some a.block ∧ a = ⟨a.block, e.start + k, none⟩
  | .cptr t x, _, cs => ∃ b off c, cs = [.pointer (some ⟨b, off, none⟩)] ∧ St μ w b ∧ CellsAt w b off c ∧ Rep w (St μ w) t x c
  | .own o, _, cs => ∃ a n c, cs = [.slice a n c] ∧ μ.used o ∧ ∀ e, μ.ent o = some e → e.vec = true ∧ HdrAt e.blk e.start e.ty.size e.sz e.len (.slice a n c)
  | .hdr o p off len, _, cs => ∃ a c, cs = [.slice a len c] ∧ (a = none → len = 0) ∧ len ≤ big ∧ μ.used o ∧ ∀ e, μ.ent o = some e → ∃ k t n, e.row p = some (k, t, n) ∧ off + len ≤ n ∧
      HdrAt e.blk (e.start + k + off * t.size) t.size e.sz len (.slice a len c)
  | .full t x, _, cs => ∃ a, cs = [.slice a x.length x.length] ∧ Rep w (St μ w) (.slice t) x cs
  | .ncons a as, false, cs => ∃ c c', cs = c ++ c' ∧ R μ w a false c ∧ R μ w as false c'
  | .ncons a as, true, vs => ∃ v vs', vs = v :: vs' ∧ ((aggTV a = true ∧ ∃ cs, v = .agg cs ∧ R μ w a false cs.toList) ∨ (aggTV a = false ∧ R μ w a false [v])) ∧ R μ w as true vs'
  | .fn f c, _, cs => ∃ vs, cs = [.func (.func f) #[] vs] ∧ R μ w c true vs.toList
  | .tup l, _, cs => ∃ vs, cs = [.tuple vs] ∧ R μ w l true vs.toList
/-- The value in a temporary. -/
def VR (μ : Mp) (w : World) (x : TV) (v : Value) : Prop :=
  (aggTV x = true ∧ ∃ cs, v = .agg cs ∧ R μ w x false cs.toList) ∨ (aggTV x = false ∧ R μ w x false [v])

def Owned (w : World) (b sz : Nat) : Prop :=
  ∃ cs elem fz, w.heap[b]? = some (.cells cs elem fz) ∧ cs.size = sz ∧ ∀ off, off < sz → w.frozen? ⟨b, off, none⟩ = false
def RowAt (w : World) (st : Nat → Prop) (b s : Nat) (t : Ty) (xs : List t.den) : Prop :=
  ∀ (i : Nat) (x : t.den), xs[i]? = some x → ∃ c, CellsAt w b (s + i * t.size) c ∧ Rep w st t x c
/-- The entries of a map. -/
def EntR (μ : Mp) (w : World) (k v : Ty) : List (k.den × v.den) → List MapEntry → Prop
  | [], [] => True
  | e :: l, m :: ms => VR μ w (.pv k e.1) m.key ∧ VR μ w (.pv v e.2) m.val ∧ EntR μ w k v l ms
  | _, _ => False
def ObR (μ : Mp) (w : World) (e : Ent) : Ob → Prop
  | .mp k v l => ∃ b es clk, e.blk = some b ∧ w.heap[b]? = some (.map es clk) ∧ EntR μ w k v l es.toList
  | .box t c => e.vec = false ∧ e.ty = t ∧ fitB t c = true ∧ ∃ b cs, e.blk = some b ∧ Owned w b e.sz ∧ e.start + t.size ≤ e.sz ∧ CellsAt w b e.start cs ∧ R μ w c false cs
  | .vec t xs => e.vec = true ∧ e.ty = t ∧ e.len = xs.length ∧ xs.length ≤ lim ∧ match e.blk with
    | none => xs = []
    | some b => Owned w b e.sz ∧ e.start + xs.length * t.size ≤ e.sz ∧ RowAt w (St μ w) b e.start t xs

structure HeapR (μ : Mp) (w : World) (h : Heap) : Prop where
  ob : ∀ o ob, h o = some ob → ∃ e, μ.ent o = some e ∧ ObR μ w e ob
  dom : ∀ o e, μ.ent o = some e → ∃ ob, h o = some ob
  inj : ∀ o o' e e' b, μ.ent o = some e → μ.ent o' = some e' → e.blk = some b → e'.blk = some b → o = o'
  used : ∀ o e, μ.ent o = some e → μ.used o
  nhid : ∀ o e b, μ.ent o = some e → e.blk = some b → ¬ μ.hid b
  hlt : ∀ b, μ.hid b → b < w.heap.size

/-- From one state of memory to a later one. -/
structure Step (μ : Mp) (w : World) (μ' : Mp) (w' : World) : Prop where
  os : w'.os = w.os
  tape : w'.tape = w.tape
  output : w'.output = w.output
  size : w.heap.size ≤ w'.heap.size
  st : ∀ b, St μ w b → St μ' w' b ∧ w'.heap[b]? = w.heap[b]?
  used : ∀ o, μ.used o → μ'.used o
  ent : ∀ o e, μ.used o → μ'.ent o = some e → μ.ent o = some e
  hid : μ'.hid = μ.hid
  hids : ∀ b, μ.hid b → w'.heap[b]? = w.heap[b]?

theorem Step.refl (μ : Mp) (w : World) : Step μ w μ w := ⟨rfl, rfl, rfl, Nat.le_refl _, fun _ h => ⟨h, rfl⟩, fun _ h => h, fun _ _ _ h => h, rfl, fun _ _ => rfl⟩
theorem Step.trans {μ μ' μ'' : Mp} {w w' w'' : World} (h : Step μ w μ' w') (k : Step μ' w' μ'' w'') : Step μ w μ'' w'' :=
  ⟨k.os.trans h.os, k.tape.trans h.tape, k.output.trans h.output, Nat.le_trans h.size k.size,
   fun b hb => ⟨(k.st b (h.st b hb).1).1, ((k.st b (h.st b hb).1).2).trans (h.st b hb).2⟩, fun o ho => k.used o (h.used o ho),
   fun o e ho he => h.ent o e ho (k.ent o e (h.used o ho) he), k.hid.trans h.hid, fun b hb => (k.hids b (by rw [h.hid]; exact hb)).trans (h.hids b hb)⟩

section
variable {μ μ' : Mp} {w w' : World}
theorem Step.rep (h : Step μ w μ' w') {t : Ty} {x : t.den} {cs : List Value} (hr : Rep w (St μ w) t x cs) : Rep w' (St μ' w') t x cs :=
  hr.mono h.st
theorem R.mono (h : Step μ w μ' w') : ∀ {x : TV} {m : Bool} {cs : List Value}, R μ w x m cs → R μ' w' x m cs := by
  intro x
  induction x with
  | pv t x => intro m cs hr; cases m with
    | false => exact h.rep hr
    | true => exact hr
  | ptr o p =>
    intro m cs hr
    obtain ⟨a, h1, h2, h3⟩ := hr
    exact ⟨a, h1, h.used o h2, fun e he => h3 e (h.ent o e h2 he)⟩
  | cptr t x =>
    intro m cs hr
    obtain ⟨b, off, c, h1, h2, h3, h4⟩ := hr
    exact ⟨b, off, c, h1, (h.st b h2).1, h3.mono (h.st b h2).2, h.rep h4⟩
  | own o =>
    intro m cs hr
    obtain ⟨a, n, c, h1, h2, h3⟩ := hr
    exact ⟨a, n, c, h1, h.used o h2, fun e he => h3 e (h.ent o e h2 he)⟩
  | hdr o p off len =>
    intro m cs hr
    obtain ⟨a, c, h1, h1', h1'', h2, h3⟩ := hr
    exact ⟨a, c, h1, h1', h1'', h.used o h2, fun e he => h3 e (h.ent o e h2 he)⟩
  | mref o =>
    intro m cs hr
    obtain ⟨r, h1, h2, h3⟩ := hr
    exact ⟨r, h1, h.used o h2, fun e he => h3 e (h.ent o e h2 he)⟩
  | full t x => intro m cs hr; obtain ⟨a, h1, h2⟩ := hr; exact ⟨a, h1, h.rep h2⟩
  | ncons a as ih ih' =>
    intro m cs hr
    cases m with
    | false => obtain ⟨c, c', h1, h2, h3⟩ := hr; exact ⟨c, c', h1, ih h2, ih' h3⟩
    | true =>
      obtain ⟨v, vs, h1, h2, h3⟩ := hr
      refine ⟨v, vs, h1, ?_, ih' h3⟩
      rcases h2 with ⟨h4, cs, h5, h6⟩ | ⟨h4, h5⟩
      · exact .inl ⟨h4, cs, h5, ih h6⟩
      · exact .inr ⟨h4, ih h5⟩
  | fn f c ih => intro m cs hr; obtain ⟨vs, h1, h2⟩ := hr; exact ⟨vs, h1, ih h2⟩
  | tup l ih => intro m cs hr; obtain ⟨vs, h1, h2⟩ := hr; exact ⟨vs, h1, ih h2⟩
  | _ => intro m cs hr; exact hr
theorem VR.mono (h : Step μ w μ' w') {x : TV} {v : Value} (hr : VR μ w x v) : VR μ' w' x v := by
  rcases hr with ⟨h1, cs, h2, h3⟩ | ⟨h1, h2⟩
  · exact .inl ⟨h1, cs, h2, h3.mono h⟩
  · exact .inr ⟨h1, h2.mono h⟩

theorem EntR.mono (h : Step μ w μ' w') {k v : Ty} : ∀ {l : List (k.den × v.den)} {ms : List MapEntry}, EntR μ w k v l ms → EntR μ' w' k v l ms := by
  intro l
  induction l with
  | nil => intro ms hr; cases ms with
    | nil => trivial
    | cons => exact hr.elim
  | cons e l ih => intro ms hr; cases ms with
    | nil => exact hr.elim
    | cons m ms => exact ⟨hr.1.mono h, hr.2.1.mono h, ih hr.2.2⟩
theorem frozen_same {b off : Nat} (hb : w'.heap[b]? = w.heap[b]?) : w'.frozen? ⟨b, off, none⟩ = w.frozen? ⟨b, off, none⟩ := by
  unfold World.frozen?; rw [hb]
theorem Owned.mono {b sz : Nat} (hb : w'.heap[b]? = w.heap[b]?) (h : Owned w b sz) : Owned w' b sz := by
  obtain ⟨cs, el, fz, h1, h2, h3⟩ := h
  exact ⟨cs, el, fz, hb.trans h1, h2, fun off ho => (frozen_same hb).trans (h3 off ho)⟩
theorem Owned.lt {b sz : Nat} (h : Owned w b sz) : b < w.heap.size := by
  obtain ⟨cs, el, fz, h1, _⟩ := h
  exact (Array.getElem?_eq_some_iff.1 h1).1
theorem RowAt.mono {st st' : Nat → Prop} {b s : Nat} {t : Ty} {xs : List t.den} (hs : ∀ b, st b → st' b ∧ w'.heap[b]? = w.heap[b]?) (hb : w'.heap[b]? = w.heap[b]?)
    (h : RowAt w st b s t xs) : RowAt w' st' b s t xs := by
  intro i x hx
  obtain ⟨c, h1, h2⟩ := h i x hx
  exact ⟨c, h1.mono hb, h2.mono hs⟩
/-- An object whose block has not turned. -/
theorem ObR.mono {e : Ent} {ob : Ob} (h : Step μ w μ' w') (hb : ∀ b, e.blk = some b → w'.heap[b]? = w.heap[b]?) (hr : ObR μ w e ob) : ObR μ' w' e ob := by
  cases ob with
  | mp k v l =>
    obtain ⟨b, es, clk, h1, h2, h3⟩ := hr
    exact ⟨b, es, clk, h1, (hb b h1).trans h2, h3.mono h⟩
  | box t c =>
    obtain ⟨h1, h2, h0, b, cs, h3, h4, h5, h6, h7⟩ := hr
    exact ⟨h1, h2, h0, b, cs, h3, h4.mono (hb b h3), h5, h6.mono (hb b h3), h7.mono h⟩
  | vec t xs =>
    obtain ⟨h1, h2, h3, h3', h4⟩ := hr
    refine ⟨h1, h2, h3, h3', ?_⟩
    cases hk : e.blk with
    | none => rw [hk] at h4; exact h4
    | some b =>
      rw [hk] at h4
      obtain ⟨h5, h6, h7⟩ := h4
      exact ⟨h5.mono (hb b hk), h6, h7.mono h.st (hb b hk)⟩
theorem ObR.lt {e : Ent} {ob : Ob} {b : Nat} (hr : ObR μ w e ob) (hb : e.blk = some b) : b < w.heap.size := by
  cases ob with
  | mp k v l =>
    obtain ⟨b', es, clk, h1, h2, _⟩ := hr
    rw [hb] at h1; cases h1
    exact (Array.getElem?_eq_some_iff.1 h2).1
  | box t c =>
    obtain ⟨_, _, _, b', cs, h3, h4, _⟩ := hr
    rw [hb] at h3; cases h3
    exact h4.lt
  | vec t xs =>
    obtain ⟨_, _, _, _, h4⟩ := hr
    rw [hb] at h4
    exact h4.1.lt
theorem HeapR.lt {h : Heap} (hh : HeapR μ w h) {o : Oid} {e : Ent} {b : Nat} (ho : μ.ent o = some e) (hb : e.blk = some b) : b < w.heap.size := by
  obtain ⟨ob, h1⟩ := hh.dom o e ho
  obtain ⟨e', h2, h3⟩ := hh.ob o ob h1
  rw [ho] at h2; cases h2
  exact h3.lt hb
end

theorem oidBeq_eq {a b : Oid} (h : oidBeq a b = true) : a = b := by
  unfold oidBeq at h
  rw [Bool.and_eq_true] at h
  exact Prod.ext (natBeq_eq h.1) (natBeq_eq h.2)
theorem oidBeq_self (a : Oid) : oidBeq a a = true := by unfold oidBeq; rw [natBeq_self, natBeq_self]; rfl
theorem oidBeq_of_ne {a b : Oid} (h : a ≠ b) : oidBeq a b = false := by
  cases hb : oidBeq a b with
  | false => rfl
  | true => exact (h (oidBeq_eq hb)).elim
theorem Heap.put_at {h : Heap} {o : Oid} {b : Option Ob} : h.put o b o = b := by unfold Heap.put; rw [oidBeq_self]; rfl
theorem Heap.put_ne {h : Heap} {o p : Oid} {b : Option Ob} (hn : p ≠ o) : h.put o b p = h p := by unfold Heap.put; rw [oidBeq_of_ne hn]; rfl

/-! ### what becomes of the objects -/
def Mp.kill (μ : Mp) (o : Oid) : Mp := ⟨fun p => bif oidBeq p o then none else μ.ent p, μ.used, μ.hid⟩
def Mp.add (μ : Mp) (o : Oid) (e : Ent) : Mp := ⟨fun p => bif oidBeq p o then some e else μ.ent p, fun p => p = o ∨ μ.used p, μ.hid⟩
theorem Mp.kill_at {μ : Mp} {o : Oid} : (μ.kill o).ent o = none := by unfold Mp.kill; simp [oidBeq_self]
theorem Mp.kill_ne {μ : Mp} {o p : Oid} (h : p ≠ o) : (μ.kill o).ent p = μ.ent p := by unfold Mp.kill; simp [oidBeq_of_ne h]
theorem Mp.add_at {μ : Mp} {o : Oid} {e : Ent} : (μ.add o e).ent o = some e := by unfold Mp.add; simp [oidBeq_self]
theorem Mp.add_ne {μ : Mp} {o p : Oid} {e : Ent} (h : p ≠ o) : (μ.add o e).ent p = μ.ent p := by unfold Mp.add; simp [oidBeq_of_ne h]

section
variable {μ : Mp} {w : World} {h : Heap}
theorem Step.kill (μ : Mp) (w : World) (o : Oid) : Step μ w (μ.kill o) w := by
  refine ⟨rfl, rfl, rfl, Nat.le_refl _, fun b hb => ⟨⟨hb.1, fun p e hp => ?_, hb.2.2⟩, rfl⟩, fun _ h => h, fun p e _ hp => ?_, rfl, fun _ _ => rfl⟩
  · by_cases hpo : p = o
    · subst hpo; rw [Mp.kill_at] at hp; cases hp
    · rw [Mp.kill_ne hpo] at hp; exact hb.2.1 p e hp
  · by_cases hpo : p = o
    · subst hpo; rw [Mp.kill_at] at hp; cases hp
    · rw [Mp.kill_ne hpo] at hp; exact hp
theorem HeapR.kill (hh : HeapR μ w h) (o : Oid) : HeapR (μ.kill o) w (h.put o none) := by
  refine ⟨fun p ob hp => ?_, fun p e hp => ?_, fun p p' e e' b hp hp' hb hb' => ?_, fun p e hp => ?_, fun p e b hp hb => ?_, hh.hlt⟩
  · by_cases hpo : p = o
    · subst hpo; rw [Heap.put_at] at hp; cases hp
    · rw [Heap.put_ne hpo] at hp
      obtain ⟨e, h1, h2⟩ := hh.ob p ob hp
      exact ⟨e, by rw [Mp.kill_ne hpo]; exact h1, h2.mono (Step.kill μ w o) (fun _ _ => rfl)⟩
  · by_cases hpo : p = o
    · subst hpo; rw [Mp.kill_at] at hp; cases hp
    · rw [Mp.kill_ne hpo] at hp; rw [Heap.put_ne hpo]; exact hh.dom p e hp
  · by_cases hpo : p = o
    · subst hpo; rw [Mp.kill_at] at hp; cases hp
    · by_cases hpo' : p' = o
      · subst hpo'; rw [Mp.kill_at] at hp'; cases hp'
      · rw [Mp.kill_ne hpo] at hp; rw [Mp.kill_ne hpo'] at hp'; exact hh.inj p p' e e' b hp hp' hb hb'
  · by_cases hpo : p = o
    · subst hpo; rw [Mp.kill_at] at hp; cases hp
    · rw [Mp.kill_ne hpo] at hp; exact hh.used p e hp
  · by_cases hpo : p = o
    · subst hpo; rw [Mp.kill_at] at hp; cases hp
    · rw [Mp.kill_ne hpo] at hp; exact hh.nhid p e b hp hb

/-- A new object, wherever it lies, in a later world: the blocks of the others have not turned, and none of them is its own. -/
theorem HeapR.add {w' : World} (hh : HeapR μ w h) {o : Oid} {e : Ent} {ob : Ob} (hst : Step μ w (μ.add o e) w')
    (hu : ¬ μ.used o) (hsame : ∀ p e' b, μ.ent p = some e' → e'.blk = some b → w'.heap[b]? = w.heap[b]?)
    (hnew : ∀ p e' b, μ.ent p = some e' → e'.blk = some b → e.blk ≠ some b) (hnh : ∀ b, e.blk = some b → ¬ μ.hid b) (hob : ObR (μ.add o e) w' e ob) :
    HeapR (μ.add o e) w' (h.put o (some ob)) := by
  have hno : ∀ p e', μ.ent p = some e' → p ≠ o := fun p e' hp hpo => hu (hpo ▸ hh.used p e' hp)
  refine ⟨fun p ob' hp => ?_, fun p e' hp => ?_, fun p p' e1 e2 b hp hp' hb hb' => ?_, fun p e' hp => ?_, fun p e' b hp hb => ?_, fun b hb => Nat.lt_of_lt_of_le (hh.hlt b hb) hst.size⟩
  · by_cases hpo : p = o
    · subst hpo; rw [Heap.put_at] at hp; cases hp; exact ⟨e, Mp.add_at, hob⟩
    · rw [Heap.put_ne hpo] at hp
      obtain ⟨e', h1, h2⟩ := hh.ob p ob' hp
      exact ⟨e', by rw [Mp.add_ne hpo]; exact h1, h2.mono hst (fun b hb => hsame p e' b h1 hb)⟩
  · by_cases hpo : p = o
    · subst hpo; exact ⟨ob, Heap.put_at⟩
    · rw [Mp.add_ne hpo] at hp; rw [Heap.put_ne hpo]; exact hh.dom p e' hp
  · by_cases hpo : p = o
    · by_cases hpo' : p' = o
      · rw [hpo, hpo']
      · subst hpo; rw [Mp.add_at] at hp; cases hp; rw [Mp.add_ne hpo'] at hp'; exact (hnew p' e2 b hp' hb' hb).elim
    · by_cases hpo' : p' = o
      · subst hpo'; rw [Mp.add_at] at hp'; cases hp'; rw [Mp.add_ne hpo] at hp; exact (hnew p e1 b hp hb hb').elim
      · rw [Mp.add_ne hpo] at hp; rw [Mp.add_ne hpo'] at hp'; exact hh.inj p p' e1 e2 b hp hp' hb hb'
  · by_cases hpo : p = o
    · exact .inl hpo
    · rw [Mp.add_ne hpo] at hp; exact .inr (hh.used p e' hp)
  · by_cases hpo : p = o
    · subst hpo; rw [Mp.add_at] at hp; cases hp; exact hnh b hb
    · rw [Mp.add_ne hpo] at hp; exact hh.nhid p e' b hp hb
/-- An object of one's own is written: its block alone has turned. -/
theorem HeapR.write {w' : World} (hh : HeapR μ w h) {o : Oid} {e : Ent} {ob : Ob} {b : Nat} (ho : μ.ent o = some e) (hb : e.blk = some b)
    (hst : Step μ w μ w') (hsame : ∀ k, k ≠ b → w'.heap[k]? = w.heap[k]?) (hob : ObR μ w' e ob) : HeapR μ w' (h.put o (some ob)) := by
  refine ⟨fun p ob' hp => ?_, fun p e' hp => ?_, fun p p' e1 e2 b hp hp' hb hb' => hh.inj p p' e1 e2 b hp hp' hb hb', fun p e' hp => hh.used p e' hp, hh.nhid, fun b hb => Nat.lt_of_lt_of_le (hh.hlt b hb) hst.size⟩
  · by_cases hpo : p = o
    · subst hpo; rw [Heap.put_at] at hp; cases hp; exact ⟨e, ho, hob⟩
    · rw [Heap.put_ne hpo] at hp
      obtain ⟨e', h1, h2⟩ := hh.ob p ob' hp
      exact ⟨e', h1, h2.mono hst (fun b' hb' => hsame b' (fun he => hpo (hh.inj p o e' e b h1 ho (he ▸ hb') hb)))⟩
  · by_cases hpo : p = o
    · subst hpo; exact ⟨ob, Heap.put_at⟩
    · rw [Heap.put_ne hpo]; exact hh.dom p e' hp
end
end Go.PE
end

section
namespace Go.PE
section
variable {μ : Mp} {w : World}
theorem Rep.cast {st : Nat → Prop} {t t' : Ty} (h : Ty.beq t t' = true) {x : t.den} {cs : List Value} (hr : Rep w st t x cs) : Rep w st t' (Ty.eq_of_beq h ▸ x) cs := by
  have e := Ty.eq_of_beq h
  subst e; exact hr
theorem fit_size : ∀ {c : TV} {T : Ty} {cs : List Value}, fitB T c = true → R μ w c false cs → cs.length = T.size := by
  intro c
  induction c with
  | pv t x =>
    intro T cs hf hr
    have e : t = T := Ty.eq_of_beq (by cases T <;> exact hf)
    subst e; exact Rep.length hr
  | ncons a as ih ih' =>
    intro T cs hf hr
    cases T <;> simp [fitB] at hf
    obtain ⟨c, c', h1, h2, h3⟩ := hr
    rw [h1, List.length_append, ih hf.1 h2, ih' hf.2 h3]; rfl
  | nils => intro T cs hf hr; cases T <;> simp [fitB] at hf; rw [show cs = _ from hr]; rfl
  | nilp => intro T cs hf hr; cases T <;> simp [fitB] at hf; rw [show cs = _ from hr]; rfl
  | nilf => intro T cs hf hr; cases T <;> simp [fitB] at hf; rw [show cs = _ from hr]; rfl
  | nilm => intro T cs hf hr; cases T <;> simp [fitB] at hf; rw [show cs = _ from hr]; rfl
  | mref o => intro T cs hf hr; cases T <;> simp [fitB] at hf; obtain ⟨a, h1, _⟩ := hr; rw [h1]; rfl
  | ptr o p => intro T cs hf hr; cases T <;> simp [fitB] at hf; obtain ⟨a, h1, _⟩ := hr; rw [h1]; rfl
  | cptr o p => intro T cs hf hr; cases T <;> simp [fitB] at hf; obtain ⟨a, b, c, h1, _⟩ := hr; rw [h1]; rfl
  | own o => intro T cs hf hr; cases T <;> simp [fitB] at hf; obtain ⟨a, b, c, h1, _⟩ := hr; rw [h1]; rfl
  | hdr o p f l => intro T cs hf hr; cases T <;> simp [fitB] at hf; obtain ⟨a, b, h1, _⟩ := hr; rw [h1]; rfl
  | fn f c ih => intro T cs hf hr; cases T <;> simp [fitB] at hf; obtain ⟨a, h1, _⟩ := hr; rw [h1]; rfl
  | _ => intro T cs hf hr; cases T <;> simp [fitB] at hf
theorem fit_agg {c : TV} {T : Ty} (hf : fitB T c = true) : aggTV c = T.isAgg := by
  cases c with
  | pv t x =>
    have e : t = T := Ty.eq_of_beq (by cases T <;> exact hf)
    subst e; rfl
  | _ => cases T <;> simp [fitB] at hf <;> rfl
theorem fit_pv {t : Ty} {x : t.den} : fitB t (.pv t x) = true := by
  have h := Ty.beq_refl t
  cases t <;> exact h
theorem fit_pv_eq {t T : Ty} {x : t.den} (hf : fitB T (.pv t x) = true) : t = T := Ty.eq_of_beq (by cases T <;> exact hf)
theorem mkCons_R {a as : TV} {c c' : List Value} (h : R μ w a false c) (h' : R μ w as false c') : R μ w (mkCons a as) false (c ++ c') := by
  cases a <;> cases as <;> first | exact ⟨_, _, rfl, h, h'⟩
/-- A field. -/
theorem field_part : ∀ {i : Nat} {c v : TV} {T : Ty} {cs : List Value}, fieldTV c i = some v → fitB T c = true → R μ w c false cs →
    ∃ k U, (∀ p, T.offs (i :: p) = (U.offs p).map fun q => (k + q.1, q.2)) ∧ R μ w v false ((cs.drop k).take U.size) ∧ fitB U v = true ∧ k + U.size ≤ cs.length ∧
      ∀ v' vs c₂, setField c i v' = some c₂ → R μ w v' false vs → vs.length = U.size → R μ w c₂ false (cs.take k ++ vs ++ cs.drop (k + U.size)) := by
  intro i
  have opt : ∀ (o : Option (Nat × Ty)), o = o.map fun q => (0 + q.1, q.2) := by intro o; cases o <;> simp
  have optS : ∀ (t : Ty) (o : Option (Nat × Ty)) (k : Nat), (match o.map fun q => (k + q.1, q.2) with | some (o, u) => some (t.size + o, u) | none => none) = o.map fun q => (t.size + k + q.1, q.2) := by
    intro t o k; cases o <;> simp [Nat.add_assoc]
  induction i with
  | zero =>
    intro c v T cs hv hf hr
    cases c <;> (try simp [fieldTV] at hv)
    · rename_i t x
      obtain ⟨t, ts, rfl⟩ : ∃ a b, t = .cons a b := by cases t <;> first | exact ⟨_, _, rfl⟩ | cases hv
      cases hv
      have e := fit_pv_eq hf
      subst e
      obtain ⟨c, c', h1, h2, h3⟩ := hr
      have hl := Rep.length h2
      have hd : (cs.drop 0).take t.size = c := by rw [h1, List.drop_zero, List.take_append_of_le_length (by omega), List.take_of_length_le (by omega)]
      refine ⟨0, t, fun p => opt _, by rw [hd]; exact h2, fit_pv, by rw [h1, List.length_append]; omega, fun v' vs c₂ hs hr' hl' => ?_⟩
      simp [setField] at hs
      subst hs
      rw [h1, List.take_zero, List.nil_append, Nat.zero_add, List.drop_append_of_le_length (by omega), List.drop_of_length_le (by omega), List.nil_append]
      exact mkCons_R hr' h3
    · rename_i a as
      subst hv
      cases T <;> simp [fitB] at hf
      rename_i t ts
      obtain ⟨c, c', h1, h2, h3⟩ := hr
      have hl := fit_size hf.1 h2
      have hd : (cs.drop 0).take t.size = c := by rw [h1, List.drop_zero, List.take_append_of_le_length (by omega), List.take_of_length_le (by omega)]
      refine ⟨0, t, fun p => opt _, by rw [hd]; exact h2, hf.1, by rw [h1, List.length_append]; omega, fun v' vs c₂ hs hr' hl' => ?_⟩
      simp [setField] at hs
      subst hs
      rw [h1, List.take_zero, List.nil_append, Nat.zero_add, List.drop_append_of_le_length (by omega), List.drop_of_length_le (by omega), List.nil_append]
      exact mkCons_R hr' h3
  | succ i ih =>
    intro c v T cs hv hf hr
    cases c <;> (try simp [fieldTV] at hv)
    · rename_i t x
      obtain ⟨t, ts, rfl⟩ : ∃ a b, t = .cons a b := by cases t <;> first | exact ⟨_, _, rfl⟩ | cases hv
      have hv : fieldTV (.pv ts x.2) i = some v := hv
      have e := fit_pv_eq hf
      subst e
      obtain ⟨c, c', h1, h2, h3⟩ := hr
      have hl := Rep.length h2
      obtain ⟨k, U, g1, g2, g3, g4, g5⟩ := ih (T := ts) (cs := c') hv fit_pv h3
      have hdrop : ∀ m, cs.drop (t.size + m) = c'.drop m := by
        intro m; rw [h1, ← hl, List.drop_append, List.drop_of_length_le (by omega)]; simp
      refine ⟨t.size + k, U, fun p => ?_, by rw [hdrop]; exact g2, g3, by rw [h1, List.length_append]; omega, fun v' vs c₂ hs hr' hl' => ?_⟩
      · show (match ts.offs (i :: p) with | some (o, u) => some (t.size + o, u) | none => none) = _
        rw [g1 p]; exact optS _ _ _
      · simp only [setField, Option.map_eq_some_iff] at hs
        obtain ⟨c₃, hs, hs'⟩ := hs
        subst hs'
        have hk := g5 v' vs c₃ hs hr' hl'
        rw [Nat.add_assoc, hdrop]
        have ht : cs.take (t.size + k) = c ++ c'.take k := by
          rw [h1, ← hl, List.take_append, List.take_of_length_le (by omega)]; simp
        rw [ht, List.append_assoc, List.append_assoc, ← List.append_assoc (c'.take k)]
        exact mkCons_R (a := .pv t x.1) h2 hk
    · rename_i a as
      cases T <;> simp [fitB] at hf
      rename_i t ts
      obtain ⟨c, c', h1, h2, h3⟩ := hr
      have hl := fit_size hf.1 h2
      obtain ⟨k, U, g1, g2, g3, g4, g5⟩ := ih (T := ts) (cs := c') hv hf.2 h3
      have hdrop : ∀ m, cs.drop (t.size + m) = c'.drop m := by
        intro m; rw [h1, ← hl, List.drop_append, List.drop_of_length_le (by omega)]; simp
      refine ⟨t.size + k, U, fun p => ?_, by rw [hdrop]; exact g2, g3, by rw [h1, List.length_append]; omega, fun v' vs c₂ hs hr' hl' => ?_⟩
      · show (match ts.offs (i :: p) with | some (o, u) => some (t.size + o, u) | none => none) = _
        rw [g1 p]; exact optS _ _ _
      · simp only [setField, Option.map_eq_some_iff] at hs
        obtain ⟨c₃, hs, hs'⟩ := hs
        subst hs'
        have hk := g5 v' vs c₃ hs hr' hl'
        rw [Nat.add_assoc, hdrop]
        have ht : cs.take (t.size + k) = c ++ c'.take k := by
          rw [h1, ← hl, List.take_append, List.take_of_length_le (by omega)]; simp
        rw [ht, List.append_assoc, List.append_assoc, ← List.append_assoc (c'.take k)]
        exact mkCons_R (a := a) h2 hk

theorem offs_arr {n : Nat} {t : Ty} {i : Nat} {p : List Nat} : (Ty.arr n t).offs (i :: p) = match t.offs p with | some (o, u) => some (i * t.size + o, u) | none => none := by
  cases i <;> rfl
abbrev tgetD (p : List Nat) (c : TV) : Option TV := tgetK p c some
abbrev tsetD (p : List Nat) (c v : TV) : Option TV := tsetK p c v some
theorem tgetK_eq {α : Type} {p : List Nat} {c : TV} {K : TV → Option α} : tgetK p c K = (tgetD p c).bind K := by rw [tgetK_bind]; rfl
theorem tsetK_eq {α : Type} {p : List Nat} {c v : TV} {K : TV → Option α} : tsetK p c v K = (tsetD p c v).bind K := by rw [tsetK_bind]; rfl
theorem castK_eq {α : Type} {t t' : Ty} {x : t.den} {K : t'.den → Option α} {r : α} (h : castK t t' x K = some r) :
    ∃ hb : Ty.beq t t' = true, K (Ty.eq_of_beq hb ▸ x) = some r := by
  unfold castK at h
  split at h
  · rename_i hb; exact ⟨hb, h⟩
  · cases h

theorem splice_drop {l m : List Value} {i k n u : Nat} (hk : k + u ≤ n) (hi : i + n ≤ l.length) (hm : m.length = u) :
    l.take (i + k) ++ m ++ l.drop (i + k + u) = l.take i ++ (((l.drop i).take n).take k ++ m ++ ((l.drop i).take n).drop (k + u)) ++ l.drop (i + n) := by
  have h1 : l = l.take i ++ ((l.drop i).take n ++ l.drop (i + n)) := by
    rw [← List.drop_drop, List.take_append_drop, List.take_append_drop]
  have hl1 : (l.take i).length = i := by rw [List.length_take]; omega
  have hl2 : ((l.drop i).take n).length = n := by rw [List.length_take, List.length_drop]; omega
  generalize l.take i = A at *
  generalize (l.drop i).take n = B at *
  generalize l.drop (i + n) = D at *
  subst h1
  rw [← hl1, List.take_append, List.take_of_length_le (by omega), Nat.add_sub_cancel_left]
  rw [Nat.add_assoc, List.drop_append, List.drop_of_length_le (l := A) (by omega), Nat.add_sub_cancel_left, List.nil_append]
  rw [List.take_append_of_le_length (by omega), List.drop_append_of_le_length (by omega)]
  simp only [List.append_assoc]

/-- A part. -/
theorem get_part : ∀ {p : List Nat} {c v : TV} {T : Ty} {cs : List Value}, tgetD p c = some v → fitB T c = true → R μ w c false cs →
    ∃ k U, T.offs p = some (k, U) ∧ R μ w v false ((cs.drop k).take U.size) ∧ fitB U v = true ∧ k + U.size ≤ cs.length := by
  intro p
  induction p with
  | nil =>
    intro c v T cs hv hf hr
    cases hv
    have hl := fit_size hf hr
    exact ⟨0, T, by cases T <;> rfl, by rw [List.drop_zero, List.take_of_length_le (by omega)]; exact hr, hf, by omega⟩
  | cons i p ih =>
    intro c v T cs hv hf hr
    rcases arr_or c with ⟨n, t, xs, rfl⟩ | hn
    · have e := fit_pv_eq hf
      subst e
      rw [tgetD, tgetK_arr] at hv
      obtain ⟨x, hx, hv⟩ := Option.bind_eq_some_iff.1 hv
      obtain ⟨h1, h2, h3⟩ := hr
      obtain ⟨k, U, g1, g2, g3, g4⟩ := ih (T := t) (c := .pv t x) hv fit_pv (h3 i x hx)
      have hi : i < n := by rw [← h1]; exact (List.getElem?_eq_some_iff.1 hx).1
      have hs : i * t.size + t.size ≤ n * t.size := by rw [← Nat.succ_mul]; exact Nat.mul_le_mul_right _ hi
      have hl : ((cs.drop (i * t.size)).take t.size).length = t.size := by rw [List.length_take, List.length_drop]; omega
      refine ⟨i * t.size + k, U, ?_, ?_, g3, by omega⟩
      · rw [offs_arr, g1]
      · rw [List.drop_take, List.drop_drop, List.take_take, Nat.min_eq_left (by omega)] at g2
        exact g2
    · rw [tgetD, tgetK_field hn] at hv
      cases hc : fieldTV c i with
      | none => rw [hc] at hv; cases hv
      | some c₀ =>
        rw [hc] at hv
        obtain ⟨k, U, g1, g2, g3, g4, _⟩ := field_part hc hf hr
        obtain ⟨k', U', f1, f2, f3, f4⟩ := ih (T := U) (c := c₀) hv g3 g2
        have hl : ((cs.drop k).take U.size).length = U.size := by rw [List.length_take, List.length_drop]; omega
        refine ⟨k + k', U', by rw [g1, f1]; rfl, ?_, f3, by omega⟩
        rw [List.drop_take, List.drop_drop, List.take_take, Nat.min_eq_left (by omega)] at f2
        exact f2
/-- A store into a part. -/
theorem set_part : ∀ {p : List Nat} {c v c' : TV} {T U : Ty} {k : Nat} {cs vs : List Value}, tsetD p c v = some c' → fitB T c = true → T.offs p = some (k, U) → R μ w c false cs →
    R μ w v false vs → vs.length = U.size → k + U.size ≤ cs.length ∧ R μ w c' false (cs.take k ++ vs ++ cs.drop (k + U.size)) := by
  intro p
  induction p with
  | nil =>
    intro c v c' T U k cs vs hv hf ho hr hr' hl
    cases hv
    have hs := fit_size hf hr
    have e : some (0, T) = some (k, U) := by rw [← ho]; cases T <;> rfl
    cases e
    refine ⟨by omega, ?_⟩
    rw [List.take_zero, List.nil_append, List.drop_of_length_le (by omega), List.append_nil]; exact hr'
  | cons i p ih =>
    intro c v c' T U k cs vs hv hf ho hr hr' hl
    rcases arr_or c with ⟨n, t, xs, rfl⟩ | hn
    · have e := fit_pv_eq hf
      subst e
      rw [tsetD, tsetK_arr] at hv
      obtain ⟨x, hx, hv⟩ := Option.bind_eq_some_iff.1 hv
      rw [tsetK_eq] at hv
      obtain ⟨c₁, hc₁, hv⟩ := Option.bind_eq_some_iff.1 hv
      have ho' := offs_arr.symm.trans ho
      cases hq : t.offs p with
      | none => rw [hq] at ho'; cases ho'
      | some q =>
        obtain ⟨k', U'⟩ := q
        rw [hq] at ho'
        cases ho'
        obtain ⟨h1, h2, h3⟩ := hr
        obtain ⟨g1, g2⟩ := ih (c := .pv t x) (T := t) hc₁ fit_pv hq (h3 i x hx) hr' hl
        have hi : i < n := by rw [← h1]; exact (List.getElem?_eq_some_iff.1 hx).1
        have hs : i * t.size + t.size ≤ n * t.size := by rw [← Nat.succ_mul]; exact Nat.mul_le_mul_right _ hi
        have hlp : ((cs.drop (i * t.size)).take t.size).length = t.size := by rw [List.length_take, List.length_drop]; omega
        rw [hlp] at g1
        unfold pvK at hv
        cases c₁ <;> simp at hv
        rename_i t₁ x₁
        obtain ⟨hb, hv⟩ := castK_eq hv
        cases hv
        have e := Ty.eq_of_beq hb
        subst e
        refine ⟨by omega, ?_⟩
        rw [splice_drop (n := t₁.size) g1 (by omega) hl]
        generalize hB : ((cs.drop (i * t₁.size)).take t₁.size).take k' ++ vs ++ ((cs.drop (i * t₁.size)).take t₁.size).drop (k' + U.size) = B at *
        have hBl : B.length = t₁.size := Rep.length g2
        refine ⟨by rw [List.length_set]; exact h1, ?_, fun j y hy => ?_⟩
        · simp only [List.length_append, List.length_take, List.length_drop, hBl]; omega
        · by_cases hji : j = i
          · subst hji
            rw [List.getElem?_set_self (by rw [h1]; exact hi)] at hy
            cases hy
            rw [List.append_assoc, List.drop_append, List.drop_of_length_le (l := cs.take _) (by rw [List.length_take]; omega)]
            rw [List.length_take, Nat.min_eq_left (by omega), Nat.sub_self, List.drop_zero, List.nil_append, List.take_append_of_le_length (by omega), List.take_of_length_le (by omega)]
            exact g2
          · rw [List.getElem?_set_ne (Ne.symm hji)] at hy
            have hjn : j < n := by rw [← h1]; exact (List.getElem?_eq_some_iff.1 hy).1
            have hjs : j * t₁.size + t₁.size ≤ n * t₁.size := by rw [← Nat.succ_mul]; exact Nat.mul_le_mul_right _ hjn
            have hrj := h3 j y hy
            suffices hh : ((cs.take (i * t₁.size) ++ B ++ cs.drop (i * t₁.size + t₁.size)).drop (j * t₁.size)).take t₁.size = (cs.drop (j * t₁.size)).take t₁.size by rw [hh]; exact hrj
            rcases Nat.lt_or_gt_of_ne hji with hlt | hgt
            · have hle : j * t₁.size + t₁.size ≤ i * t₁.size := by rw [← Nat.succ_mul]; exact Nat.mul_le_mul_right _ hlt
              rw [List.append_assoc, List.drop_append_of_le_length (by rw [List.length_take]; omega), List.take_append_of_le_length (by rw [List.length_drop, List.length_take]; omega)]
              rw [List.drop_take, List.take_take, Nat.min_eq_left (by omega)]
            · have hle : i * t₁.size + t₁.size ≤ j * t₁.size := by rw [← Nat.succ_mul]; exact Nat.mul_le_mul_right _ hgt
              rw [List.drop_append, List.drop_of_length_le (by simp only [List.length_append, List.length_take, hBl]; omega), List.nil_append]
              simp only [List.length_append, List.length_take, hBl]
              rw [Nat.min_eq_left (by omega), List.drop_drop]
              congr 2; omega
    · rw [tsetD, tsetK_field hn] at hv
      cases hc : fieldTV c i with
      | none => rw [hc] at hv; cases hv
      | some c₀ =>
        rw [hc] at hv
        simp only [] at hv
        rw [tsetK_eq] at hv
        obtain ⟨c₁, hc₁, hv⟩ := Option.bind_eq_some_iff.1 hv
        cases hs : setField c i c₁ with
        | none => rw [hs] at hv; cases hv
        | some c₂ =>
          rw [hs] at hv
          cases hv
          obtain ⟨k₀, U₀, g1, g2, g3, g4, g5⟩ := field_part hc hf hr
          rw [g1] at ho
          obtain ⟨q, hq, ho⟩ := Option.map_eq_some_iff.1 ho
          obtain ⟨k', U'⟩ := q
          simp only [Prod.mk.injEq] at ho
          obtain ⟨rfl, rfl⟩ := ho
          have hl0 : ((cs.drop k₀).take U₀.size).length = U₀.size := by rw [List.length_take, List.length_drop]; omega
          obtain ⟨f1, f2⟩ := ih (c := c₀) (T := U₀) hc₁ g3 hq g2 hr' hl
          rw [hl0] at f1
          refine ⟨by omega, ?_⟩
          have hz := g5 c₁ _ _ hs f2 (by simp only [List.length_append, List.length_take, List.length_drop, hl]; omega)
          rw [splice_drop (n := U₀.size) f1 (by omega) hl]
          exact hz
end
end Go.PE
end

section
namespace Go.PE
set_option linter.unusedSimpArgs false

def zeroRep (f : List Value → Option (List Value)) : Nat → List Value → Option (List Value)
  | 0, cs => some cs
  | n + 1, cs => (f cs).bind (zeroRep f n)
def zeroOk : Ty → List Value → Option (List Value)
  | .int k, .int k' n :: r => bif kindBeq k k' && decide (n = 0) then some r else none
  | .bool, .bool false :: r => some r
  | .str, .string s :: r => bif Nat.beq s.size 0 then some r else none
  | .slice _, .slice none 0 0 :: r => some r
  | .ptr, .pointer none :: r => some r
  | .fn, .nilFunc :: r => some r
  | .map _ _, .map none :: r => some r
  | .arr n t, cs => bif t.plain then zeroRep (zeroOk t) n cs else none
  | .nil, cs => some cs
  | .cons t ts, cs => (zeroOk t cs).bind (zeroOk ts)
  | _, _ => none
def infoOk (P : Program) (t : TypeId) (T : Ty) : Bool :=
  match P.info? t with
  | some i => Nat.beq i.size T.size && Nat.ble i.bytes (24 * T.size) && (Nat.ble T.size 4096 && Nat.ble T.height 60) && (match i.zero with
    | some z => Nat.beq z.cells.size T.size && (match zeroOk T z.cells.toList with
      | some [] => true
      | _ => false) && (match z with
      | .agg _ => T.isAgg
      | _ => !T.isAgg)
    | none => false)
  | none => false
inductive Tgt where
  | id (t : TypeId) | flds (fs : List Field) (off : Nat)
def pos (T : Ty) : Bool := Nat.blt 0 T.size
def fitTy (P : Program) : Ty → Tgt → Bool
  | .int k, .id t => infoOk P t (.int k) && (match P.underlying t with
    | some (.int k') => kindBeq k k'
    | _ => false)
  | .bool, .id t => infoOk P t .bool && (match P.underlying t with
    | some .bool => true
    | _ => false)
  | .str, .id t => infoOk P t .str && (match P.underlying t with
    | some .string => true
    | _ => false)
  | .slice U, .id t => infoOk P t (.slice U) && (match P.underlying t with
    | some (.slice u) => U.plain && pos U && fitTy P U (.id u)
    | _ => false)
  | .arr n U, .id t => infoOk P t (.arr n U) && (match P.underlying t with
    | some (.array m u) => Nat.beq n m && Nat.blt 1 n && U.plain && pos U && fitTy P U (.id u)
    | _ => false)
  | .cons A As, .id t => infoOk P t (.cons A As) && (match P.underlying t with
    | some (.struct fs) => (match fs.toList with
      | f :: l => (Nat.beq f.offset 0 && f.name != "_") && pos A && fitTy P A (.id f.type) && fitTy P As (.flds l A.size)
      | [] => false) && !P.stoodInHeld t
    | _ => false)
  | .cons A As, .flds (f :: l) off => (Nat.beq f.offset off && f.name != "_") && pos A && fitTy P A (.id f.type) && fitTy P As (.flds l (off + A.size))
  | .nil, .id t => infoOk P t .nil && (match P.underlying t with
    | some (.struct fs) => Nat.beq fs.size 0 && !P.stoodInHeld t
    | _ => false)
  | .nil, .flds [] _ => true
  | .ptr, .id t => infoOk P t .ptr && (match P.underlying t with
    | some (.pointer _) => true
    | _ => false)
  | .fn, .id t => infoOk P t .fn && (match P.underlying t with
    | some (.func _ _ _) => true
    | _ => false)
  | .map K V, .id t => infoOk P t (.map K V) && (match P.underlying t with
    | some (.map k v) => K.plain && V.plain && fitTy P K (.id k) && fitTy P V (.id v)
    | _ => false)
  | _, _ => false
/-- The program's table of types is as τ says. -/
structure TyOk (P : Program) (τ : Nat → Option Ty) : Prop where
  fit : ∀ t T, τ t = some T → fitTy P T (.id t) = true
  depth : 62 ≤ P.depth

section
variable {P : Program} {μ : Mp} {w : World}
theorem bnot_eq {b : Bool} (h : (!b) = true) : b = false := by cases b <;> simp_all
theorem zeroOk_rep : ∀ {t : Ty} {cs r : List Value}, zeroOk t cs = some r → t.plain = true → ∃ c, cs = c ++ r ∧ ∀ (w : World) (st : Nat → Prop), Rep w st t t.dflt c := by
  intro t
  induction t with
  | int k =>
    intro cs r h hp
    cases cs with
    | nil => cases h
    | cons v cs =>
      cases v <;> simp only [zeroOk] at h <;> try (cases h; done)
      rename_i k' n
      cases hc : kindBeq k k' && decide (n = 0) with
      | false => rw [hc] at h; cases h
      | true =>
        rw [hc] at h
        simp only [cond_true, Option.some.injEq] at h
        simp only [Bool.and_eq_true, decide_eq_true_eq] at hc
        subst h
        refine ⟨[.int k' n], rfl, fun w st => ?_⟩
        rw [kind_of_beq hc.1, hc.2]
        refine ⟨rfl, ?_, ?_⟩ <;> cases k' <;> decide
  | bool =>
    intro cs r h hp
    cases cs with
    | nil => cases h
    | cons v cs =>
      cases v with
      | bool b => cases b with
        | true => cases h
        | false => cases h; exact ⟨[.bool false], rfl, fun _ _ => rfl⟩
      | _ => cases h
  | str =>
    intro cs r h hp
    cases cs with
    | nil => cases h
    | cons v cs =>
      cases v <;> simp only [zeroOk] at h <;> try (cases h; done)
      rename_i s
      cases hc : Nat.beq s.size 0 with
      | false => rw [hc] at h; cases h
      | true =>
        rw [hc] at h
        simp only [cond_true, Option.some.injEq] at h
        subst h
        have hs := natBeq_eq hc
        refine ⟨[.string s], rfl, fun w st => ⟨s, rfl, ?_, by rw [hs]; decide⟩⟩
        have : s.data.toList = [] := by
          have h1 : s.data.size = 0 := hs
          rw [Array.size_eq_zero_iff] at h1; rw [h1]
        rw [this]; rfl
  | slice t ih =>
    intro cs r h hp
    cases cs with
    | nil => cases h
    | cons v cs =>
      cases v with
      | slice a n c =>
        cases a with
        | some a => cases h
        | none =>
          cases n with
          | succ n => cases h
          | zero =>
            cases c with
            | succ c => cases h
            | zero =>
              cases h
              exact ⟨[.slice none 0 0], rfl, fun w st => ⟨none, 0, rfl, Nat.le_refl _, Nat.zero_le _, rfl⟩⟩
      | _ => cases h
  | arr n t ih =>
    intro cs r h hp
    have hp' : t.plain = true := hp
    simp only [zeroOk, hp', cond_true] at h
    have key : ∀ (m : Nat) (cs r : List Value), zeroRep (zeroOk t) m cs = some r → ∃ c, cs = c ++ r ∧ ∀ (w : World) (st : Nat → Prop), Rep w st (.arr m t) (Ty.arr m t).dflt c := by
      intro m
      induction m with
      | zero => intro cs r h; cases h; exact ⟨[], rfl, fun w st => ⟨rfl, by simp, fun i x hx => by cases i <;> cases hx⟩⟩
      | succ m ihm =>
        intro cs r h
        obtain ⟨cs', h1, h2⟩ := Option.bind_eq_some_iff.1 h
        obtain ⟨c1, e1, r1⟩ := ih h1 hp'
        obtain ⟨c2, e2, r2⟩ := ihm cs' r h2
        refine ⟨c1 ++ c2, by rw [e1, e2, List.append_assoc], fun w st => ?_⟩
        obtain ⟨g1, g2, g3⟩ := r2 w st
        have hl := Rep.length (r1 w st)
        refine ⟨by simp [Ty.dflt], by rw [List.length_append, hl, g2, Nat.succ_mul, Nat.add_comm], fun i x hx => ?_⟩
        cases i with
        | zero =>
          have hx' : some t.dflt = some x := by simpa [Ty.dflt, List.replicate_succ] using hx
          cases hx'
          rw [Nat.zero_mul, List.drop_zero, List.take_append_of_le_length (by omega), List.take_of_length_le (by omega)]
          exact r1 w st
        | succ i =>
          have hx' : (Ty.arr m t).dflt[i]? = some x := by simpa [Ty.dflt, List.replicate_succ] using hx
          have := g3 i x hx'
          rw [Nat.succ_mul, Nat.add_comm, ← hl, List.drop_append, List.drop_of_length_le (by omega), List.nil_append, Nat.add_sub_cancel_left, hl]
          exact this
    exact key n cs r h
  | nil => intro cs r h hp; cases h; exact ⟨[], rfl, fun _ _ => rfl⟩
  | cons t ts ih ih' =>
    intro cs r h hp
    simp only [Ty.plain, Bool.and_eq_true] at hp
    obtain ⟨cs', h1, h2⟩ := Option.bind_eq_some_iff.1 h
    obtain ⟨c1, e1, r1⟩ := ih h1 hp.1
    obtain ⟨c2, e2, r2⟩ := ih' h2 hp.2
    exact ⟨c1 ++ c2, by rw [e1, e2, List.append_assoc], fun w st => ⟨c1, c2, rfl, r1 w st, r2 w st⟩⟩
  | _ => intro cs r h hp; simp [Ty.plain] at hp
theorem zeroTV_R : ∀ {t : Ty} {cs r : List Value}, zeroOk t cs = some r → ∃ c, cs = c ++ r ∧ ∀ (μ : Mp) (w : World), R μ w (zeroTV t) false c := by
  intro t
  induction t with
  | slice t _ =>
    intro cs r h
    cases cs with
    | nil => cases h
    | cons v cs =>
      cases v with
      | slice a n c =>
        cases a with
        | some a => cases h
        | none =>
          cases n with
          | succ n => cases h
          | zero =>
            cases c with
            | succ c => cases h
            | zero => cases h; exact ⟨[.slice none 0 0], rfl, fun _ _ => rfl⟩
      | _ => cases h
  | ptr =>
    intro cs r h
    cases cs with
    | nil => cases h
    | cons v cs =>
      cases v with
      | pointer a => cases a with
        | none => cases h; exact ⟨[.pointer none], rfl, fun _ _ => rfl⟩
        | some a => cases h
      | _ => cases h
  | fn =>
    intro cs r h
    cases cs with
    | nil => cases h
    | cons v cs =>
      cases v with
      | nilFunc => cases h; exact ⟨[.nilFunc], rfl, fun _ _ => rfl⟩
      | _ => cases h
  | map k v _ _ =>
    intro cs r h
    cases cs with
    | nil => cases h
    | cons x cs =>
      cases x with
      | map a => cases a with
        | none => cases h; exact ⟨[.map none], rfl, fun _ _ => rfl⟩
        | some a => cases h
      | _ => cases h
  | cons t ts ih ih' =>
    intro cs r h
    obtain ⟨cs', h1, h2⟩ := Option.bind_eq_some_iff.1 h
    obtain ⟨c1, e1, r1⟩ := ih h1
    obtain ⟨c2, e2, r2⟩ := ih' h2
    exact ⟨c1 ++ c2, by rw [e1, e2, List.append_assoc], fun μ w => mkCons_R (r1 μ w) (r2 μ w)⟩
  | arr n t _ =>
    intro cs r h
    have hp : t.plain = true := by
      cases hp : t.plain with
      | true => rfl
      | false => simp [zeroOk, hp] at h
    obtain ⟨c, e, hr⟩ := zeroOk_rep h hp
    exact ⟨c, e, fun μ w => hr w _⟩
  | _ => intro cs r h; obtain ⟨c, e, hr⟩ := zeroOk_rep h rfl; exact ⟨c, e, fun μ w => hr w _⟩
end
end Go.PE
end

section
namespace Go.PE
set_option linter.unusedSimpArgs false
section
variable {P : Program} {μ : Mp} {w : World}

theorem Rep.one {st : Nat → Prop} : ∀ {t : Ty} {x : t.den} {cs : List Value}, Rep w st t x cs → ∀ v ∈ cs, v.oneCell' = true := by
  intro t
  induction t with
  | int k => intro x cs h v hv; rw [h.1] at hv; cases List.mem_singleton.1 hv; rfl
  | bool => intro x cs h v hv; rw [show cs = _ from h] at hv; cases List.mem_singleton.1 hv; rfl
  | str => intro x cs h v hv; obtain ⟨s, h, _⟩ := h; rw [h] at hv; cases List.mem_singleton.1 hv; rfl
  | slice t ih => intro x cs h v hv; obtain ⟨a, cap, h, _⟩ := h; rw [h] at hv; cases List.mem_singleton.1 hv; rfl
  | arr n t ih =>
    intro x cs h v hv
    obtain ⟨h1, h2, h3⟩ := h
    obtain ⟨j, hj⟩ := List.mem_iff_getElem?.1 hv
    have hjl : j < n * t.size := by rw [← h2]; exact (List.getElem?_eq_some_iff.1 hj).1
    have hpos : 0 < t.size := by
      rcases Nat.eq_zero_or_pos t.size with h0 | h0
      · rw [h0] at hjl; omega
      · exact h0
    have hi : j / t.size < n := Nat.div_lt_of_lt_mul (by rw [Nat.mul_comm]; exact hjl)
    have hx : ∃ y, x[j / t.size]? = some y := ⟨_, List.getElem?_eq_getElem (by rw [h1]; exact hi)⟩
    obtain ⟨y, hy⟩ := hx
    refine ih (h3 _ y hy) v (List.mem_iff_getElem?.2 ⟨j % t.size, ?_⟩)
    rw [List.getElem?_take_of_lt (Nat.mod_lt _ hpos), List.getElem?_drop]
    rw [show j / t.size * t.size + j % t.size = j from by rw [Nat.mul_comm]; exact Nat.div_add_mod j t.size]
    exact hj
  | nil => intro x cs h v hv; rw [show cs = _ from h] at hv; cases hv
  | cons t ts ih ih' =>
    intro x cs h v hv
    obtain ⟨c, c', h, h1, h2⟩ := h
    rw [h] at hv
    rcases List.mem_append.1 hv with hv | hv
    · exact ih h1 v hv
    · exact ih' h2 v hv
  | _ => intro x cs h; exact h.elim
theorem fit_one : ∀ {c : TV} {T : Ty} {cs : List Value}, fitB T c = true → R μ w c false cs → ∀ v ∈ cs, v.oneCell' = true := by
  intro c
  induction c with
  | pv t x => intro T cs hf hr; exact Rep.one hr
  | ncons a as ih ih' =>
    intro T cs hf hr v hv
    cases T <;> simp [fitB] at hf
    obtain ⟨c, c', h1, h2, h3⟩ := hr
    rw [h1] at hv
    rcases List.mem_append.1 hv with hv | hv
    · exact ih hf.1 h2 v hv
    · exact ih' hf.2 h3 v hv
  | nils => intro T cs hf hr v hv; rw [show cs = _ from hr] at hv; cases List.mem_singleton.1 hv; rfl
  | nilp => intro T cs hf hr v hv; rw [show cs = _ from hr] at hv; cases List.mem_singleton.1 hv; rfl
  | nilf => intro T cs hf hr v hv; rw [show cs = _ from hr] at hv; cases List.mem_singleton.1 hv; rfl
  | nilm => intro T cs hf hr v hv; rw [show cs = _ from hr] at hv; cases List.mem_singleton.1 hv; rfl
  | mref o => intro T cs hf hr v hv; obtain ⟨a, h1, _⟩ := hr; rw [h1] at hv; cases List.mem_singleton.1 hv; rfl
  | ptr o p => intro T cs hf hr v hv; obtain ⟨a, h1, _⟩ := hr; rw [h1] at hv; cases List.mem_singleton.1 hv; rfl
  | cptr o p => intro T cs hf hr v hv; obtain ⟨a, b, c, h1, _⟩ := hr; rw [h1] at hv; cases List.mem_singleton.1 hv; rfl
  | own o => intro T cs hf hr v hv; obtain ⟨a, b, c, h1, _⟩ := hr; rw [h1] at hv; cases List.mem_singleton.1 hv; rfl
  | hdr o p f l => intro T cs hf hr v hv; obtain ⟨a, b, h1, _⟩ := hr; rw [h1] at hv; cases List.mem_singleton.1 hv; rfl
  | fn f c ih => intro T cs hf hr v hv; obtain ⟨a, h1, _⟩ := hr; rw [h1] at hv; cases List.mem_singleton.1 hv; rfl
  | _ => intro T cs hf hr; cases T <;> simp [fitB] at hf
theorem cells_one {v : Value} (h : v.oneCell' = true) : v.cells = #[v] := by
  cases v <;> first | rfl | simp [Value.oneCell'] at h
/-- The cells of a value that fits. -/
theorem VR.cells {T : Ty} {x : TV} {v : Value} (hf : fitB T x = true) (h : VR μ w x v) : R μ w x false v.cells.toList := by
  rcases h with ⟨h1, cs, rfl, h3⟩ | ⟨h1, h2⟩
  · exact h3
  · rw [cells_one (fit_one hf h2 v (by simp))]; exact h2
theorem VR.size {T : Ty} {x : TV} {v : Value} (hf : fitB T x = true) (h : VR μ w x v) : v.cells.size = T.size := by
  have := fit_size hf (VR.cells hf h)
  simpa using this

theorem fit_info {T : Ty} {t : TypeId} (h : fitTy P T (.id t) = true) : infoOk P t T = true := by
  cases T <;> simp only [fitTy, Bool.and_eq_true] at h <;> first | exact h.1 | cases h
theorem info_facts {T : Ty} {t : TypeId} (h : fitTy P T (.id t) = true) : ∃ i z, P.info? t = some i ∧ i.size = T.size ∧ i.bytes ≤ 24 * T.size ∧ (T.size ≤ 4096 ∧ T.height ≤ 60) ∧ i.zero = some z ∧
    z.cells.size = T.size ∧ ∀ μ w, R μ w (zeroTV T) false z.cells.toList ∧ ((T.isAgg = true ∧ ∃ cs, z = .agg cs) ∨ (T.isAgg = false ∧ z.cells = #[z])) := by
  have hi := fit_info h
  unfold infoOk at hi
  cases hp : P.info? t with
  | none => rw [hp] at hi; cases hi
  | some i =>
    rw [hp] at hi
    simp only [Bool.and_eq_true] at hi
    obtain ⟨⟨⟨h1, h2⟩, h3, h3'⟩, h4⟩ := hi
    cases hz : i.zero with
    | none => rw [hz] at h4; cases h4
    | some z =>
      rw [hz] at h4
      simp only [Bool.and_eq_true] at h4
      obtain ⟨⟨hsz, h4⟩, h5⟩ := h4
      cases hk : zeroOk T z.cells.toList with
      | none => rw [hk] at h4; cases h4
      | some r =>
        rw [hk] at h4
        cases r with
        | cons a b => cases h4
        | nil =>
          obtain ⟨c, e, hr⟩ := zeroTV_R hk
          rw [List.append_nil] at e
          refine ⟨i, z, rfl, natBeq_eq h1, Nat.le_of_ble_eq_true h2, ⟨Nat.le_of_ble_eq_true h3, Nat.le_of_ble_eq_true h3'⟩, hz, natBeq_eq hsz, fun μ w => ⟨by rw [e]; exact hr μ w, ?_⟩⟩
          cases z <;> first
            | exact .inl ⟨h5, _, rfl⟩
            | exact .inr ⟨by simpa using h5, rfl⟩
theorem run_sizeOf {T : Ty} {t : TypeId} (h : fitTy P T (.id t) = true) : (sizeOf t).run P w = .ok T.size w := by
  obtain ⟨i, z, h1, h2, _⟩ := info_facts h
  simp [sizeOf, typeInfo, h1, h2]
theorem run_underlying_of {t : TypeId} {d : TypeDesc} (h : P.underlying t = some d) : (underlying t).run P w = .ok d w := by
  simp [underlying, h]
theorem run_isAgg {T : Ty} {t : TypeId} (h : fitTy P T (.id t) = true) : (isAgg t).run P w = .ok T.isAgg w := by
  have : ∃ d, P.underlying t = some d ∧ (match d with | .struct _ | .array _ _ => true | _ => false) = T.isAgg := by
    cases T <;> simp only [fitTy, Bool.and_eq_true] at h <;> try (cases h; done)
    all_goals
      obtain ⟨_, h⟩ := h
      split at h <;> first | exact ⟨_, ‹_›, rfl⟩ | cases h
  obtain ⟨d, h1, h2⟩ := this
  simp only [isAgg, underlying]
  simp [h1]
  cases d <;> simp_all
theorem run_zeroValue {T : Ty} {t : TypeId} (h : fitTy P T (.id t) = true) : ∃ z, (zeroValue t).run P w = .ok z w ∧ z.cells.size = T.size ∧
    (∀ μ w, R μ w (zeroTV T) false z.cells.toList) ∧ ((T.isAgg = true ∧ ∃ cs, z = .agg cs) ∨ (T.isAgg = false ∧ z.cells = #[z])) := by
  obtain ⟨i, z, h1, h2, _, _, h3, h4, h5⟩ := info_facts h
  exact ⟨z, by simp [zeroValue, typeInfo, h1, h3], h4, fun μ w => (h5 μ w).1, (h5 ⟨fun _ => none, fun _ => False, fun _ => False⟩ w).2⟩

theorem add_addr (b off i : Nat) : (Addr.mk b off none).add i = ⟨b, off + i, none⟩ := by
  unfold Addr.add; split
  · rename_i h; rw [h]; rfl
  · rfl
theorem run_loadCells_at {b off : Nat} {cs : List Value} (h : CellsAt w b off cs) : (loadCells ⟨b, off, none⟩ cs.length).run P w = .ok cs.toArray w := by
  refine run_loadCells_list w _ cs fun j v hj => ?_
  rw [add_addr]; exact h j v hj
theorem run_loadVar_at {T : Ty} {t : TypeId} (hT : fitTy P T (.id t) = true) {b off : Nat} {cs : List Value} {x : TV} (hc : CellsAt w b off cs)
    (hr : R μ w x false cs) (hf : fitB T x = true) : ∃ v, (loadVar t ⟨b, off, none⟩).run P w = .ok v w ∧ VR μ w x v := by
  have hl := fit_size hf hr
  have ha := fit_agg hf
  cases hag : T.isAgg with
  | true =>
    refine ⟨.agg cs.toArray, ?_, .inl ⟨ha.trans hag, cs.toArray, rfl, hr⟩⟩
    have := run_loadCells_at (P := P) hc
    rw [hl] at this
    simp [loadVar, run_isAgg hT, hag, run_sizeOf hT, this]
  | false =>
    have hs : T.size = 1 := by cases T <;> first | rfl | (simp [Ty.isAgg] at hag)
    rw [hs] at hl
    match cs, hl with
    | [v], _ =>
      refine ⟨v, ?_, .inr ⟨ha.trans hag, hr⟩⟩
      have := hc 0 v rfl
      simp [loadVar, run_isAgg hT, hag] at this ⊢
      rw [this]

/-- A store into a block of one's own: what it does. -/
structure Wrote (w w' : World) (b off : Nat) (vs : List Value) : Prop where
  os : w'.os = w.os
  tape : w'.tape = w.tape
  output : w'.output = w.output
  size : w'.heap.size = w.heap.size
  other : ∀ k, k ≠ b → w'.heap[k]? = w.heap[k]?
  owned : ∀ sz, Owned w b sz → Owned w' b sz
  cells : CellsAt w' b off vs
  rest : ∀ j, (j < off ∨ off + vs.length ≤ j) → w'.cell? ⟨b, j, none⟩ = w.cell? ⟨b, j, none⟩

theorem heap_setCell_cells {b j : Nat} {v : Value} {cs : Array Value} {el : TypeId} {fz : Nat × Nat} (h : w.heap[b]? = some (.cells cs el fz)) :
    (w.setCell ⟨b, j, none⟩ v).heap[b]? = some (.cells (cs.setIfInBounds j v) el fz) := by
  unfold World.setCell
  simp [Array.getElem?_modify, h]
theorem heap_setCell_ne {b j k : Nat} {v : Value} (h : k ≠ b) : (w.setCell ⟨b, j, none⟩ v).heap[k]? = w.heap[k]? := by
  unfold World.setCell
  simp only [Array.getElem?_modify]
  rw [if_neg (Ne.symm h)]
theorem cell_eq {b j : Nat} {cs : Array Value} {el : TypeId} {fz : Nat × Nat} (h : w.heap[b]? = some (.cells cs el fz)) : w.cell? ⟨b, j, none⟩ = cs[j]? := by
  unfold World.cell?; simp [h]
theorem frozen_setCell {a : Addr} {v : Value} {c : Addr} : (w.setCell a v).frozen? c = w.frozen? c := World.frozen?_setCell ..
theorem Owned.setCell {b j sz : Nat} {v : Value} (h : Owned w b sz) : Owned (w.setCell ⟨b, j, none⟩ v) b sz := by
  obtain ⟨cs, el, fz, h1, h2, h3⟩ := h
  exact ⟨_, el, fz, heap_setCell_cells h1, by simp [h2], fun off ho => by rw [frozen_setCell]; exact h3 off ho⟩
theorem run_storeCells_own : ∀ (vs : List Value) (i : Nat) (w : World) {b off sz : Nat}, Owned w b sz → off + i + vs.length ≤ sz → (∀ v ∈ vs, v.oneCell' = true) →
    ∃ w', (storeCells ⟨b, off, none⟩ vs i).run P w = .ok () w' ∧ Wrote w w' b (off + i) vs := by
  intro vs
  induction vs with
  | nil =>
    intro i w b off sz hO hl h1
    exact ⟨w, rfl, rfl, rfl, rfl, rfl, fun _ _ => rfl, fun _ h => h, fun j v hj => by simp at hj, fun _ _ => rfl⟩
  | cons v vs ih =>
    intro i w b off sz hO hl h1
    simp only [List.length_cons] at hl
    have hO0 := hO
    obtain ⟨cs, el, fz, g1, g2, g3⟩ := hO
    have hv := h1 v (by simp)
    have hlt : off + i < cs.size := by omega
    have hst : (store ((Addr.mk b off none).add i) v).run P w = .ok () (w.setCell ⟨b, off + i, none⟩ v) := by
      rw [add_addr, run_store _ _ _ _ _ hv, cell_eq g1, Array.getElem?_eq_getElem hlt]
      simp only []
      rw [g3 (off + i) (by omega)]; rfl
    obtain ⟨w', e, hw⟩ := ih (i + 1) (w.setCell ⟨b, off + i, none⟩ v) (b := b) (off := off) (sz := sz) hO0.setCell (by omega) (fun u hu => h1 u (by simp [hu]))
    refine ⟨w', ?_, ?_⟩
    · simp only [storeCells, Sem.run_bind, hst, Result.andThen_ok]; exact e
    · have hc0 : (w.setCell ⟨b, off + i, none⟩ v).cell? ⟨b, off + i, none⟩ = some v := by
        rw [cell_eq (heap_setCell_cells g1)]; simp [hlt]
      refine ⟨hw.os, hw.tape, hw.output, by rw [hw.size]; simp [World.setCell], fun k hk => by rw [hw.other k hk, heap_setCell_ne hk], fun s hs => hw.owned s hs.setCell, ?_, ?_⟩
      · intro j u hj
        cases j with
        | zero =>
          cases hj
          rw [Nat.add_zero, hw.rest (off + i) (.inl (by omega))]; exact hc0
        | succ j =>
          have := hw.cells j u hj
          rw [show off + i + (j + 1) = off + (i + 1) + j from by omega]; exact this
      · intro j hj
        simp only [List.length_cons] at hj
        rw [hw.rest j (by omega), cell_eq (heap_setCell_cells g1), cell_eq g1]
        rw [Array.getElem?_setIfInBounds_ne (by omega)]
theorem run_storeVar_own {T : Ty} {t : TypeId} (hT : fitTy P T (.id t) = true) {b off sz : Nat} {x : TV} {v : Value} (hO : Owned w b sz) (hl : off + T.size ≤ sz)
    (hv : VR μ w x v) (hf : fitB T x = true) : ∃ w', (storeVar t ⟨b, off, none⟩ v).run P w = .ok () w' ∧ Wrote w w' b off v.cells.toList := by
  have hc := VR.cells hf hv
  have hs := VR.size hf hv
  have h1 := fit_one hf hc
  obtain ⟨w', e, hw⟩ := run_storeCells_own (P := P) v.cells.toList 0 w (b := b) (off := off) hO (by simp [hs]; exact hl) h1
  refine ⟨w', ?_, hw⟩
  simp [storeVar, run_sizeOf hT, hs]
  exact e

/-- A new block of one's own. -/
theorem run_newRow {e : TypeId} {cells : Array Value} : (newRow e cells).run P w = .ok ⟨w.heap.size, 0, none⟩ (w.alloc (.cells cells e)) := by
  simp [newRow]
theorem heap_alloc_at (o : Obj) : (w.alloc o).heap[w.heap.size]? = some o := by
  show (w.heap.push o)[w.heap.size]? = some o
  simp
theorem heap_alloc_ne {o : Obj} {k : Nat} (h : k < w.heap.size) : (w.alloc o).heap[k]? = w.heap[k]? := by
  show (w.heap.push o)[k]? = _
  rw [Array.getElem?_push, if_neg (by omega)]
theorem owned_alloc (cells : Array Value) (e : TypeId) : Owned (w.alloc (.cells cells e)) w.heap.size cells.size :=
  ⟨cells, e, (0, 0), heap_alloc_at _, rfl, fun off _ => by unfold World.frozen?; simp only [heap_alloc_at]; simp⟩
theorem cellsAt_alloc (cells : Array Value) (e : TypeId) : CellsAt (w.alloc (.cells cells e)) w.heap.size 0 cells.toList := by
  intro j v hj
  rw [cell_eq (heap_alloc_at _), Nat.zero_add]; simpa using hj
theorem Step.alloc {o : Oid} {e : Ent} (hl : ∀ b, μ.hid b → b < w.heap.size) (hu : ¬ μ.used o) (ob : Obj) (he : e.blk = some w.heap.size ∨ e.blk = none) :
    Step μ w (μ.add o e) (w.alloc ob) := by
  refine ⟨rfl, rfl, rfl, by simp, fun b hb => ⟨⟨by simp; have := hb.1; omega, fun p e' hp => ?_, hb.2.2⟩, heap_alloc_ne hb.1⟩, fun p hp => .inr hp, fun p e' hp he' => ?_, rfl, fun b hb => heap_alloc_ne (hl b hb)⟩
  · by_cases hpo : p = o
    · subst hpo; rw [Mp.add_at] at hp; cases hp
      intro hbb
      rcases he with he | he
      · rw [he] at hbb; cases hbb; exact Nat.lt_irrefl _ hb.1
      · rw [he] at hbb; cases hbb
    · rw [Mp.add_ne hpo] at hp; exact hb.2.1 p e' hp
  · by_cases hpo : p = o
    · subst hpo; exact (hu hp).elim
    · rw [Mp.add_ne hpo] at he'; exact he'
end
end Go.PE
end

section
namespace Go.PE
set_option linter.unusedSimpArgs false
section
variable {P : Program} {μ : Mp} {w : World}

def Gives (P : Program) (μ : Mp) (w : World) (m : Sem Value) (r : TV) : Prop := ∃ v, m.run P w = .ok v w ∧ VR μ w r v

theorem VR.scal {x : TV} {v : Value} (h : VR μ w x v) (ha : aggTV x = false) : R μ w x false [v] := by
  rcases h with ⟨h1, _⟩ | ⟨_, h2⟩
  · rw [ha] at h1; cases h1
  · exact h2
theorem VR.of_scal {x : TV} {v : Value} (ha : aggTV x = false) (h : R μ w x false [v]) : VR μ w x v := .inr ⟨ha, h⟩
theorem VR.int {k : IntKind} {n : Int} {v : Value} (h : VR μ w (.pv (.int k) n) v) : v = .int k n ∧ k.min ≤ n ∧ n ≤ k.max := by
  obtain ⟨h1, h2⟩ := h.scal rfl
  cases h1; exact ⟨rfl, h2⟩
theorem VR.bool {b : Bool} {v : Value} (h : VR μ w (.pv .bool b) v) : v = .bool b := by
  have h1 : [v] = [.bool b] := h.scal rfl
  cases h1; rfl
theorem VR.str {xs : List Int} {v : Value} (h : VR μ w (.pv .str xs) v) : ∃ s : ByteArray, v = .string s ∧ xs = s.data.toList.map (fun c => (c.toNat : Int)) ∧ s.size ≤ big := by
  obtain ⟨s, h1, h2⟩ := h.scal rfl
  cases h1; exact ⟨s, rfl, h2⟩
theorem VR.mk_int {k : IntKind} {n : Int} (h : k.min ≤ n ∧ n ≤ k.max) : VR μ w (.pv (.int k) n) (.int k n) := .inr ⟨rfl, rfl, h⟩
theorem VR.mk_bool {b : Bool} : VR μ w (.pv .bool b) (.bool b) := .inr ⟨rfl, rfl⟩
theorem VR.mk_str {s : ByteArray} (h : s.size ≤ big) : VR μ w (.pv .str (s.data.toList.map (fun c => (c.toNat : Int)))) (.string s) := .inr ⟨rfl, s, rfl, rfl, h⟩
theorem Gives.int {k : IntKind} {n : Int} {m : Sem Value} (h : m.run P w = .ok (.int k n) w) (hn : k.min ≤ n ∧ n ≤ k.max) : Gives P μ w m (.pv (.int k) n) := ⟨_, h, VR.mk_int hn⟩
theorem Gives.bool {b : Bool} {m : Sem Value} (h : m.run P w = .ok (.bool b) w) : Gives P μ w m (.pv .bool b) := ⟨_, h, VR.mk_bool⟩

theorem tmod_within {k : IntKind} {a b : Int} (ha : k.min ≤ a ∧ a ≤ k.max) : k.min ≤ a.tmod b ∧ a.tmod b ≤ k.max := by
  have h0 : k.min ≤ 0 := by cases k <;> decide
  have h1 : 0 ≤ k.max := by cases k <;> decide
  rcases Int.le_total 0 a with h | h
  · have := Int.tmod_nonneg b h
    have h2 : a.tmod b ≤ a := by
      have := Int.natAbs_tmod a b
      have h3 := Nat.mod_le a.natAbs b.natAbs
      omega
    omega
  · have h3 : a.tmod b ≤ 0 := by
      have := Int.tmod_nonneg b (a := -a) (by omega)
      rw [Int.neg_tmod] at this; omega
    have h2 : a ≤ a.tmod b := by
      have := Int.natAbs_tmod a b
      have h3 := Nat.mod_le a.natAbs b.natAbs
      omega
    omega
theorem shr_within {k : IntKind} {a b : Int} (ha : k.min ≤ a ∧ a ≤ k.max) : k.min ≤ shrI k a b ∧ shrI k a b ≤ k.max := by
  have h0 : k.min ≤ 0 := by cases k <;> decide
  have h1 : 0 ≤ k.max := by cases k <;> decide
  unfold shrI
  have hp : (1 : Int) ≤ 2 ^ (min b.toNat k.bits) := by
    have : (0 : Int) < 2 ^ (min b.toNat k.bits) := Int.pow_pos (by omega)
    omega
  rw [Int.fdiv_eq_ediv_of_nonneg _ (by omega)]
  generalize (2 : Int) ^ (min b.toNat k.bits) = p at hp ⊢
  rcases Int.le_total 0 a with h | h
  · have h2 := Int.ediv_nonneg h (by omega : (0 : Int) ≤ p)
    have h3 := Int.ediv_le_self p h
    omega
  · have h2 : a / p ≤ 0 := by
      have := Int.ediv_le_ediv (c := p) (by omega) h
      rw [Int.zero_ediv] at this; exact this
    have h3 : a ≤ a / p := by
      rw [Int.le_ediv_iff_mul_le (by omega)]
      have : a * p ≤ a * 1 := Int.mul_le_mul_of_nonpos_left h hp
      omega
    omega

theorem intBin_ok {op : BinOp} {t : TypeId} {k k' : IntKind} {a b : Int} {r : TV} (h : intBinK op k a k' b some = some r)
    (ha : k.min ≤ a ∧ a ≤ k.max) (hb : k'.min ≤ b ∧ b ≤ k'.max) : Gives P μ w (binOp op t (.int k a) (.int k' b)) r := by
  have hneg : (k'.signed && decide (b < 0)) = false → ¬ b < 0 := by
    intro hh hlt
    cases hs : k'.signed with
    | true => simp [hs, hlt] at hh
    | false =>
      have : k'.min = 0 := by cases k' <;> first | rfl | (simp [IntKind.signed] at hs)
      omega
  cases op <;> simp only [intBinK] at h
  case shl =>
    cases hc : (k'.signed && decide (b < 0)) with
    | true => rw [hc] at h; cases h
    | false =>
      rw [hc] at h; cases h
      exact Gives.int (by simp [binOp, Op.shift, hneg hc, shlI]) (wrap_within _ _)
  case shr =>
    cases hc : (k'.signed && decide (b < 0)) with
    | true => rw [hc] at h; cases h
    | false =>
      rw [hc] at h; cases h
      exact Gives.int (by simp [binOp, Op.shift, hneg hc, shrI]) (shr_within ha)
  all_goals
    have hc0 : kindBeq k k' = true := by
      cases hc : kindBeq k k' with
      | true => rfl
      | false => rw [hc] at h; cases h
    rw [hc0] at h
    simp only [cond_true] at h
    obtain rfl := kind_of_beq hc0
  case add => cases h; exact Gives.int (by simp [binOp, Op.intArith]) (wrap_within _ _)
  case sub => cases h; exact Gives.int (by simp [binOp, Op.intArith]) (wrap_within _ _)
  case mul => cases h; exact Gives.int (by simp [binOp, Op.intArith]) (wrap_within _ _)
  case quo =>
    cases hc : decide (b = 0) with
    | true => rw [hc] at h; cases h
    | false =>
      rw [hc] at h; cases h
      have hb0 : b ≠ 0 := by simpa using hc
      exact Gives.int (by simp [binOp, Op.intDiv, hb0]) (wrap_within _ _)
  case rem =>
    cases hc : decide (b = 0) with
    | true => rw [hc] at h; cases h
    | false =>
      rw [hc] at h; cases h
      have hb0 : b ≠ 0 := by simpa using hc
      exact Gives.int (by simp [binOp, Op.intDiv, hb0]) (tmod_within ha)
  case and => cases h; exact Gives.int (by simp [binOp, Op.intBits, bitI]) (wrap_within _ _)
  case or => cases h; exact Gives.int (by simp [binOp, Op.intBits, bitI]) (wrap_within _ _)
  case xor => cases h; exact Gives.int (by simp [binOp, Op.intBits, bitI]) (wrap_within _ _)
  case andNot => cases h; exact Gives.int (by simp [binOp, Op.intBits, bitI]) (wrap_within _ _)
  case eql => cases h; exact Gives.bool (by simp [binOp, Op.intCmp]; rfl)
  case neq => cases h; exact Gives.bool (by simp [binOp, Op.intCmp]; rfl)
  case lss => cases h; exact Gives.bool (by simp [binOp, Op.intCmp])
  case leq => cases h; exact Gives.bool (by simp [binOp, Op.intCmp])
  case gtr => cases h; exact Gives.bool (by simp [binOp, Op.intCmp])
  case geq => cases h; exact Gives.bool (by simp [binOp, Op.intCmp])

/-- A part of an aggregate. -/
theorem run_part {T : Ty} {t : TypeId} (hT : fitTy P T (.id t) = true) {cs : Array Value} {off : Nat} {x : TV} (hf : fitB T x = true)
    (hr : R μ w x false ((cs.toList.drop off).take T.size)) : ∃ v, (part t cs off).run P w = .ok v w ∧ VR μ w x v := by
  have hl := fit_size hf hr
  have ha := fit_agg hf
  cases hag : T.isAgg with
  | true =>
    refine ⟨.agg (cs.extract off (off + T.size)), ?_, .inl ⟨ha.trans hag, _, rfl, ?_⟩⟩
    · simp [part, run_isAgg hT, hag, run_sizeOf hT]
    · have : (cs.extract off (off + T.size)).toList = (cs.toList.drop off).take T.size := by simp
      rw [this]; exact hr
  | false =>
    have hs : T.size = 1 := by cases T <;> first | rfl | (simp [Ty.isAgg] at hag)
    rw [hs] at hl hr
    have hlen : off < cs.size := by
      rw [List.length_take, List.length_drop, Array.length_toList] at hl; omega
    refine ⟨cs[off], ?_, .inr ⟨ha.trans hag, ?_⟩⟩
    · simp [part, run_isAgg hT, hag, Array.getElem?_eq_getElem hlen]
    · have : (cs.toList.drop off).take 1 = [cs[off]] := by
        rw [List.drop_eq_getElem_cons (by simpa using hlen)]; simp
      rw [this] at hr; exact hr
theorem bytesEq (a b : ByteArray) : (a.toList == b.toList) = eqList (fun (x y : Int) => decide (x = y)) (a.data.toList.map fun c => (c.toNat : Int)) (b.data.toList.map fun c => (c.toNat : Int)) := by
  rw [ByteArray.toList_eq, ByteArray.toList_eq]
  generalize a.data.toList = x
  generalize b.data.toList = y
  induction x generalizing y with
  | nil => cases y <;> rfl
  | cons c x ih =>
    cases y with
    | nil => rfl
    | cons d y =>
      show (c == d && x == y) = (decide ((c.toNat : Int) = (d.toNat : Int)) && eqList _ (x.map _) (y.map _))
      rw [← ih]
      congr 1
      rw [Bool.eq_iff_iff]
      simp only [beq_iff_eq, decide_eq_true_eq]
      constructor
      · intro h; rw [h]
      · intro h; exact UInt8.toNat_inj.1 (by omega)
theorem bytesLt (a b : ByteArray) : Op.bytesLess a.toList b.toList = lessI (a.data.toList.map fun c => (c.toNat : Int)) (b.data.toList.map fun c => (c.toNat : Int)) := by
  rw [ByteArray.toList_eq, ByteArray.toList_eq]
  generalize a.data.toList = x
  generalize b.data.toList = y
  induction x generalizing y with
  | nil => cases y <;> rfl
  | cons c x ih =>
    cases y with
    | nil => rfl
    | cons d y =>
      show (decide (c < d) || (c == d && Op.bytesLess x y)) = (decide ((c.toNat : Int) < (d.toNat : Int)) || (decide ((c.toNat : Int) = (d.toNat : Int)) && lessI (x.map _) (y.map _)))
      rw [← ih]
      congr 1
      · rw [Bool.eq_iff_iff]; simp only [decide_eq_true_eq, UInt8.lt_iff_toNat_lt]; omega
      · congr 1
        rw [Bool.eq_iff_iff]
        simp only [beq_iff_eq, decide_eq_true_eq]
        constructor
        · intro h; rw [h]
        · intro h; exact UInt8.toNat_inj.1 (by omega)
theorem take_split {α : Type} {l c c' : List α} {a b : Nat} (e : l.take (a + b) = c ++ c') (h1 : c.length = a) (_h2 : c'.length = b) : l.take a = c ∧ (l.drop a).take b = c' := by
  constructor
  · have := congrArg (List.take a) e
    rw [List.take_take, Nat.min_eq_left (by omega), List.take_left' h1] at this
    exact this
  · have := congrArg (List.drop a) e
    rw [List.drop_take, Nat.add_sub_cancel_left, List.drop_left' h1] at this
    exact this
/-- What a comparison of values of a type comes to; of fields; of elements. -/
theorem equal_ok : ∀ {T : Ty}, T.comparable = true →
    (∀ {t : TypeId} {d : Nat} {a b : T.den} {x y : Value}, fitTy P T (.id t) = true → T.height < d → VR μ w (.pv T a) x → VR μ w (.pv T b) y → (Op.equalIn d t x y).run P w = .ok (T.eqb a b) w) ∧
    (∀ {fs : List Field} {off d : Nat} {a b : T.den} {xs ys : Array Value}, fitTy P T (.flds fs off) = true → T.height < d + 1 → Rep w (St μ w) T a ((xs.toList.drop off).take T.size) →
      Rep w (St μ w) T b ((ys.toList.drop off).take T.size) → (Op.eqFields d xs ys fs).run P w = .ok (T.eqb a b) w) := by
  intro T
  induction T with
  | int k =>
    intro _
    refine ⟨?_, (by intro fs off d a b xs ys hT; cases hT)⟩
    intro t d a b x y hT hd hx hy
    obtain ⟨rfl, _⟩ := hx.int
    obtain ⟨rfl, _⟩ := hy.int
    simp only [fitTy, Bool.and_eq_true] at hT
    obtain ⟨d, rfl⟩ : ∃ e, d = e + 1 := ⟨d - 1, by simp [Ty.height] at hd; omega⟩
    cases hu : P.underlying t with
    | none => rw [hu] at hT; cases hT.2
    | some u =>
      rw [hu] at hT
      cases u <;> simp at hT
      rw [run_equalIn_int w d t k _ a b hu]; rfl
  | bool =>
    intro _
    refine ⟨?_, (by intro fs off d a b xs ys hT; cases hT)⟩
    intro t d a b x y hT hd hx hy
    obtain rfl := hx.bool
    obtain rfl := hy.bool
    simp only [fitTy, Bool.and_eq_true] at hT
    obtain ⟨d, rfl⟩ : ∃ e, d = e + 1 := ⟨d - 1, by simp [Ty.height] at hd; omega⟩
    cases hu : P.underlying t with
    | none => rw [hu] at hT; cases hT.2
    | some u =>
      rw [hu] at hT
      cases u <;> simp at hT
      rw [run_equalIn_bool' w d t a b hu]; rfl
  | str =>
    intro _
    refine ⟨?_, (by intro fs off d a b xs ys hT; cases hT)⟩
    intro t d a b x y hT hd hx hy
    obtain ⟨s, rfl, rfl, _⟩ := hx.str
    obtain ⟨s', rfl, rfl, _⟩ := hy.str
    simp only [fitTy, Bool.and_eq_true] at hT
    obtain ⟨d, rfl⟩ : ∃ e, d = e + 1 := ⟨d - 1, by simp [Ty.height] at hd; omega⟩
    cases hu : P.underlying t with
    | none => rw [hu] at hT; cases hT.2
    | some u =>
      rw [hu] at hT
      cases u <;> simp at hT
      rw [run_equalIn_string w d t s s' hu, bytesEq]; rfl
  | arr n T ih =>
    intro hc
    obtain ⟨ih1, _⟩ := ih hc
    refine ⟨?_, (by intro fs off d a b xs ys hT; cases hT)⟩
    intro t d a b x y hT hd hx hy
    rcases hx with ⟨_, xs, rfl, hx⟩ | ⟨h, _⟩
    · rcases hy with ⟨_, ys, rfl, hy⟩ | ⟨h, _⟩
      · simp only [fitTy, Bool.and_eq_true] at hT
        obtain ⟨_, hT⟩ := hT
        cases hu : P.underlying t with
        | none => rw [hu] at hT; cases hT
        | some u =>
          rw [hu] at hT
          cases u <;> simp only [Bool.and_eq_true] at hT <;> try (cases hT; done)
          rename_i m u
          obtain ⟨⟨⟨⟨hn, _⟩, _⟩, _⟩, hT⟩ := hT
          have := natBeq_eq hn
          subst this
          obtain ⟨d, rfl⟩ : ∃ e, d = e + 1 := ⟨d - 1, by simp [Ty.height] at hd; omega⟩
          obtain ⟨i, z, hi, hsz, _⟩ := info_facts hT
          rw [run_equalIn_array w d xs ys hu hi]
          have hce : P.cellsOf u = T.size := by simp [Program.cellsOf, hi, hsz]
          rw [hce]
          obtain ⟨hx1, _, hx3⟩ := hx
          obtain ⟨hy1, _, hy3⟩ := hy
          show _ = Result.ok (eqList T.eqb a b) w
          have key : ∀ (m k : Nat) (a' b' : List T.den), a'.length = m → b'.length = m → (∀ (j : Nat) (x : T.den), a'[j]? = some x → Rep w (St μ w) T x ((xs.toList.drop ((k + j) * T.size)).take T.size)) →
              (∀ (j : Nat) (x : T.den), b'[j]? = some x → Rep w (St μ w) T x ((ys.toList.drop ((k + j) * T.size)).take T.size)) →
              (Op.eqItems d u T.size xs ys (List.range' k m)).run P w = .ok (eqList T.eqb a' b') w := by
            intro m
            induction m with
            | zero =>
              intro k a' b' ha hb _ _
              cases a' with
              | cons => cases ha
              | nil => cases b' with
                | cons => cases hb
                | nil => simp [Op.eqItems, eqList]
            | succ m ihm =>
              intro k a' b' ha hb h1 h2
              match a', ha, b', hb with
              | p :: a', ha, q :: b', hb =>
                obtain ⟨v1, e1, g1⟩ := run_part (μ := μ) hT (x := .pv T p) (off := k * T.size) (cs := xs) fit_pv (h1 0 p rfl)
                obtain ⟨v2, e2, g2⟩ := run_part (μ := μ) hT (x := .pv T q) (off := k * T.size) (cs := ys) fit_pv (h2 0 q rfl)
                have e3 := ih1 (d := d) hT (by simp [Ty.height] at hd; omega) g1 g2
                simp only [List.range'_succ, Op.eqItems, Sem.run_bind, e1, e2, e3, Result.andThen_ok, eqList]
                cases hpq : T.eqb p q with
                | false => simp
                | true =>
                  simp only [Bool.not_true, Bool.false_eq_true, if_false, Bool.true_and]
                  exact ihm (k + 1) a' b' (by simpa using ha) (by simpa using hb) (fun j x hj => by have := h1 (j + 1) x hj; rwa [show k + (j + 1) = k + 1 + j from by omega] at this)
                    (fun j x hj => by have := h2 (j + 1) x hj; rwa [show k + (j + 1) = k + 1 + j from by omega] at this)
          rw [List.range_eq_range']
          exact key n 0 a b hx1 hy1 (fun j x hj => by rw [Nat.zero_add]; exact hx3 j x hj) (fun j x hj => by rw [Nat.zero_add]; exact hy3 j x hj)
      · simp [aggTV, Ty.isAgg] at h
    · simp [aggTV, Ty.isAgg] at h
  | nil =>
    intro _
    refine ⟨?_, ?_⟩
    · intro t d a b x y hT hd hx hy
      rcases hx with ⟨_, xs, rfl, hx⟩ | ⟨h, _⟩
      · rcases hy with ⟨_, ys, rfl, hy⟩ | ⟨h, _⟩
        · simp only [fitTy, Bool.and_eq_true] at hT
          obtain ⟨_, hT⟩ := hT
          cases hu : P.underlying t with
          | none => rw [hu] at hT; cases hT
          | some u =>
            rw [hu] at hT
            cases u <;> simp only [Bool.and_eq_true] at hT <;> try (cases hT; done)
            rename_i fs
            obtain ⟨d, rfl⟩ : ∃ e, d = e + 1 := ⟨d - 1, by simp [Ty.height] at hd; omega⟩
            have hfo : P.fieldsOf t = fs := by simp [Program.fieldsOf, hu]
            rw [run_equalIn_struct w d t xs ys (by rw [hfo]; exact hu) (by simpa using hT.2), hfo]
            have : fs.toList = [] := by
              have := natBeq_eq hT.1
              rw [Array.size_eq_zero_iff] at this; rw [this]
            rw [this]; simp [Op.eqFields, Ty.eqb]
        · simp [aggTV, Ty.isAgg] at h
      · simp [aggTV, Ty.isAgg] at h
    · intro fs off d a b xs ys hT _ _ _
      cases fs with
      | nil => simp [Op.eqFields, Ty.eqb]
      | cons => cases hT
  | cons T Ts ih ih' =>
    intro hc
    simp only [Ty.comparable, Bool.and_eq_true] at hc
    obtain ⟨i1, _⟩ := ih hc.1
    obtain ⟨_, j2⟩ := ih' hc.2
    -- the cells of the first, of the others
    have split : ∀ {a : (Ty.cons T Ts).den} {l : List Value}, Rep w (St μ w) (.cons T Ts) a (l.take (Ty.cons T Ts).size) →
        Rep w (St μ w) T a.1 (l.take T.size) ∧ Rep w (St μ w) Ts a.2 ((l.drop T.size).take Ts.size) := by
      intro a l h
      obtain ⟨c, c', e, h1, h2⟩ := h
      have hl1 := Rep.length h1
      have hl2 := Rep.length h2
      have hs : (Ty.cons T Ts).size = T.size + Ts.size := rfl
      rw [hs] at e
      obtain ⟨e1, e2⟩ := take_split e hl1 hl2
      rw [e1, e2]; exact ⟨h1, h2⟩
    have flds : ∀ {f : Field} {l : List Field} {off d : Nat} {a b : (Ty.cons T Ts).den} {xs ys : Array Value}, f.name ≠ "_" → f.offset = off → fitTy P T (.id f.type) = true → fitTy P Ts (.flds l (off + T.size)) = true →
        (Ty.cons T Ts).height < d + 1 → Rep w (St μ w) (.cons T Ts) a ((xs.toList.drop off).take (Ty.cons T Ts).size) → Rep w (St μ w) (.cons T Ts) b ((ys.toList.drop off).take (Ty.cons T Ts).size) →
        (Op.eqFields d xs ys (f :: l)).run P w = .ok ((Ty.cons T Ts).eqb a b) w := by
      intro f l off d a b xs ys hname hoff hT1 hT2 hd hx hy
      obtain ⟨hx1, hx2⟩ := split hx
      obtain ⟨hy1, hy2⟩ := split hy
      subst hoff
      obtain ⟨v1, e1, g1⟩ := run_part (μ := μ) hT1 (x := .pv T a.1) (off := f.offset) (cs := xs) fit_pv hx1
      obtain ⟨v2, e2, g2⟩ := run_part (μ := μ) hT1 (x := .pv T b.1) (off := f.offset) (cs := ys) fit_pv hy1
      simp only [Ty.height] at hd
      have e3 := i1 (d := d) hT1 (by omega) g1 g2
      simp only [Op.eqFields, Sem.run_bind, ne_eq, hname, not_false_eq_true, if_true, e1, e2, e3, Result.andThen_ok]
      show _ = Result.ok (T.eqb a.1 b.1 && Ts.eqb a.2 b.2) w
      cases hpq : T.eqb a.1 b.1 with
      | false => simp
      | true =>
        simp only [Bool.not_true, Bool.false_eq_true, if_false, Bool.true_and]
        rw [List.drop_drop] at hx2 hy2
        exact j2 (d := d) hT2 (by omega) hx2 hy2
    refine ⟨?_, ?_⟩
    · intro t d a b x y hT hd hx hy
      rcases hx with ⟨_, xs, rfl, hx⟩ | ⟨h, _⟩
      · rcases hy with ⟨_, ys, rfl, hy⟩ | ⟨h, _⟩
        · have hlx := Rep.length hx
          have hly := Rep.length hy
          simp only [fitTy, Bool.and_eq_true] at hT
          obtain ⟨_, hT⟩ := hT
          obtain ⟨d, rfl⟩ : ∃ e, d = e + 1 := ⟨d - 1, by omega⟩
          have hx' : Rep w (St μ w) (.cons T Ts) a ((xs.toList.drop 0).take (Ty.cons T Ts).size) := by rw [List.drop_zero, List.take_of_length_le (by omega)]; exact hx
          have hy' : Rep w (St μ w) (.cons T Ts) b ((ys.toList.drop 0).take (Ty.cons T Ts).size) := by rw [List.drop_zero, List.take_of_length_le (by omega)]; exact hy
          cases hu : P.underlying t with
          | none => rw [hu] at hT; cases hT
          | some u =>
            rw [hu] at hT
            cases u <;> (try simp only [Bool.and_eq_true] at hT) <;> try (cases hT; done)
            · rename_i fs
              obtain ⟨hT, hs⟩ := hT
              have hfo : P.fieldsOf t = fs := by simp [Program.fieldsOf, hu]
              rw [run_equalIn_struct w d t xs ys (by rw [hfo]; exact hu) (by simpa using hs), hfo]
              cases hl : fs.toList with
              | nil => rw [hl] at hT; cases hT
              | cons f l =>
                rw [hl] at hT
                simp only [Bool.and_eq_true] at hT
                obtain ⟨⟨⟨⟨h1, h2⟩, _⟩, hT1⟩, hT2⟩ := hT
                exact flds (by simpa using h2) (natBeq_eq h1) hT1 (by rw [Nat.zero_add]; exact hT2) (by omega) hx' hy'
        · simp [aggTV, Ty.isAgg] at h
      · simp [aggTV, Ty.isAgg] at h
    · intro fs off d a b xs ys hT hd hx hy
      cases fs with
      | nil => cases hT
      | cons f l =>
        simp only [fitTy, Bool.and_eq_true] at hT
        obtain ⟨⟨⟨⟨h1, h2⟩, _⟩, hT1⟩, hT2⟩ := hT
        exact flds (by simpa using h2) (natBeq_eq h1) hT1 hT2 hd hx hy
  | _ => intro h; cases h
end
end Go.PE
end

section
namespace Go.PE
set_option linter.unusedSimpArgs false
section
variable {P : Program} {μ : Mp} {w : World}

theorem strBin_ok {op : BinOp} {t : TypeId} {a b : List Int} {va vb : Value} {r : TV} (h : strBinK op a b some = some r)
    (ha : VR μ w (.pv .str a) va) (hb : VR μ w (.pv .str b) vb) : Gives P μ w (binOp op t va vb) r := by
  obtain ⟨s, rfl, rfl, hs⟩ := ha.str
  obtain ⟨s', rfl, rfl, hs'⟩ := hb.str
  have hl : ∀ (s : ByteArray), (s.data.toList.map fun c => (c.toNat : Int)).length = s.size := fun s => by rw [List.length_map, Array.length_toList]; rfl
  cases op <;> simp only [strBinK] at h
  case add =>
    cases hc : decide ((s.data.toList.map fun c => (c.toNat : Int)).length + (s'.data.toList.map fun c => (c.toNat : Int)).length ≤ lim) with
    | false => rw [hc] at h; cases h
    | true =>
      rw [hc] at h; cases h
      simp only [decide_eq_true_eq, hl] at hc
      have hlim : lim = 1073741824 := rfl
      have hmax : IntKind.i64.max = 9223372036854775807 := rfl
      refine ⟨.string (s ++ s'), ?_, ?_⟩
      · have : ¬ (((s.size + s'.size : Nat) : Int) > IntKind.i64.max) := by rw [hmax]; omega
        simp only [binOp, Op.stringOp]
        simp only [Sem.run_ite, if_neg this, Sem.run_pure]
      · have e : (s.data.toList.map fun c => (c.toNat : Int)) ++ (s'.data.toList.map fun c => (c.toNat : Int)) = (s ++ s').data.toList.map fun c => (c.toNat : Int) := by
          simp
        rw [e]
        exact VR.mk_str (by rw [ByteArray.size_append]; unfold big; omega)
  case eql => cases h; exact Gives.bool (by simp [binOp, Op.stringOp, bytesEq])
  case neq => cases h; exact Gives.bool (by simp [binOp, Op.stringOp, bytesEq])
  case lss => cases h; exact Gives.bool (by simp [binOp, Op.stringOp, bytesLt])
  case leq => cases h; exact Gives.bool (by simp [binOp, Op.stringOp, bytesLt, bytesEq])
  case gtr => cases h; exact Gives.bool (by simp [binOp, Op.stringOp, bytesLt, bytesEq])
  case geq => cases h; exact Gives.bool (by simp [binOp, Op.stringOp, bytesLt])
  all_goals cases h

theorem eqGuardType_false : ∀ {T : Ty}, T.comparable = true →
    (∀ {t : TypeId} {d : Nat}, fitTy P T (.id t) = true → T.height < d → P.eqGuardType d t = false) ∧
    (∀ {fs : List Field} {off d : Nat}, fitTy P T (.flds fs off) = true → T.height < d + 1 → (fs.any fun f => f.name != "_" && P.eqGuardType d f.type) = false) := by
  intro T
  induction T with
  | arr n T ih =>
    intro hc
    refine ⟨?_, (by intro fs off d hT; cases hT)⟩
    intro t d hT hd
    simp only [fitTy, Bool.and_eq_true] at hT
    obtain ⟨_, hT⟩ := hT
    obtain ⟨d, rfl⟩ : ∃ e, d = e + 1 := ⟨d - 1, by omega⟩
    cases hu : P.underlying t with
    | none => rw [hu] at hT; cases hT
    | some u =>
      rw [hu] at hT
      cases u <;> simp only [Bool.and_eq_true] at hT <;> try (cases hT; done)
      obtain ⟨_, hT⟩ := hT
      simp only [Program.eqGuardType, hu]
      exact (ih hc).1 hT (by simp [Ty.height] at hd; omega)
  | nil =>
    intro hc
    refine ⟨?_, ?_⟩
    · intro t d hT hd
      simp only [fitTy, Bool.and_eq_true] at hT
      obtain ⟨_, hT⟩ := hT
      obtain ⟨d, rfl⟩ : ∃ e, d = e + 1 := ⟨d - 1, by omega⟩
      cases hu : P.underlying t with
      | none => rw [hu] at hT; cases hT
      | some u =>
        rw [hu] at hT
        cases u <;> simp only [Bool.and_eq_true] at hT <;> try (cases hT; done)
        rename_i fs
        simp only [Program.eqGuardType, hu]
        have := natBeq_eq hT.1
        rw [Array.size_eq_zero_iff] at this; rw [this]; simp
    · intro fs off d hT _
      cases fs with
      | nil => rfl
      | cons => cases hT
  | cons T Ts ih ih' =>
    intro hc
    simp only [Ty.comparable, Bool.and_eq_true] at hc
    refine ⟨?_, ?_⟩
    · intro t d hT hd
      simp only [fitTy, Bool.and_eq_true] at hT
      obtain ⟨_, hT⟩ := hT
      simp only [Ty.height] at hd
      obtain ⟨d, rfl⟩ : ∃ e, d = e + 1 := ⟨d - 1, by omega⟩
      cases hu : P.underlying t with
      | none => rw [hu] at hT; cases hT
      | some u =>
        rw [hu] at hT
        cases u <;> (try simp only [Bool.and_eq_true] at hT) <;> try (cases hT; done)
        · rename_i fs
          obtain ⟨hT, hs⟩ := hT
          simp only [Program.eqGuardType, hu]
          rw [← Array.any_toList]
          cases hl : fs.toList with
          | nil => rfl
          | cons f l =>
            rw [hl] at hT
            simp only [Bool.and_eq_true] at hT
            obtain ⟨⟨⟨⟨h1, h2⟩, _⟩, hT1⟩, hT2⟩ := hT
            rw [List.any_cons, (ih hc.1).1 hT1 (by omega), (ih' hc.2).2 hT2 (by omega)]; simp
    · intro fs off d hT hd
      simp only [Ty.height] at hd
      cases fs with
      | nil => rfl
      | cons f l =>
        simp only [fitTy, Bool.and_eq_true] at hT
        obtain ⟨⟨⟨⟨h1, h2⟩, _⟩, hT1⟩, hT2⟩ := hT
        rw [List.any_cons, (ih hc.1).1 hT1 (by omega), (ih' hc.2).2 hT2 (by omega)]; simp
  | int k =>
    intro hc
    refine ⟨?_, (by intro fs off d hT; cases hT)⟩
    intro t d hT hd
    simp only [fitTy, Bool.and_eq_true] at hT
    obtain ⟨d, rfl⟩ : ∃ e, d = e + 1 := ⟨d - 1, by omega⟩
    cases hu : P.underlying t with
    | none => rw [hu] at hT; cases hT.2
    | some u => rw [hu] at hT; cases u <;> simp at hT; simp [Program.eqGuardType, hu]
  | bool =>
    intro hc
    refine ⟨?_, (by intro fs off d hT; cases hT)⟩
    intro t d hT hd
    simp only [fitTy, Bool.and_eq_true] at hT
    obtain ⟨d, rfl⟩ : ∃ e, d = e + 1 := ⟨d - 1, by omega⟩
    cases hu : P.underlying t with
    | none => rw [hu] at hT; cases hT.2
    | some u => rw [hu] at hT; cases u <;> simp at hT; simp [Program.eqGuardType, hu]
  | str =>
    intro hc
    refine ⟨?_, (by intro fs off d hT; cases hT)⟩
    intro t d hT hd
    simp only [fitTy, Bool.and_eq_true] at hT
    obtain ⟨d, rfl⟩ : ∃ e, d = e + 1 := ⟨d - 1, by omega⟩
    cases hu : P.underlying t with
    | none => rw [hu] at hT; cases hT.2
    | some u => rw [hu] at hT; cases u <;> simp at hT; simp [Program.eqGuardType, hu]
  | _ => intro h; cases h

/-- What stands ahead of a comparison lets pure values by. -/
theorem run_eqGuard_pv {τ : Nat → Option Ty} (hτ : TyOk P τ) {op : BinOp} {t : TypeId} {T : Ty} (ht : τ t = some T) (hc : T.comparable = true) {a b : T.den} {x y : Operand} {va vb : Value}
    (ha : VR μ w (.pv T a) va) (hb : VR μ w (.pv T b) vb) : (eqGuard op t x y va vb).run P w = .ok () w := by
  have hT := hτ.fit t T ht
  obtain ⟨i, z, _, _, _, ⟨_, hh⟩, _⟩ := info_facts hT
  rcases ha with ⟨hga, xs, rfl, _⟩ | ⟨_, h1⟩
  · rcases hb with ⟨_, ys, rfl, _⟩ | ⟨h, _⟩
    · exact run_eqGuard_agg w op t x y xs ys ((eqGuardType_false hc).1 hT (by have := hτ.depth; omega))
    · rw [show aggTV (.pv T b) = aggTV (.pv T a) from rfl, hga] at h; cases h
  · have : ∀ v, R μ w (.pv T a) false [v] → (match v with | .agg _ | .nilIface => False | _ => True) := by
      intro v hv
      cases T <;> simp [Ty.comparable] at hc <;> simp [aggTV, Ty.isAgg] at *
      · cases (show [v] = _ from hv.1); trivial
      · cases (show [v] = _ from hv); trivial
      · obtain ⟨s, hv, _⟩ := hv; cases hv; trivial
    have := this va h1
    unfold eqGuard
    cases va <;> first | (exact this.elim) | (cases op <;> simp)
theorem eqBin_ok {τ : Nat → Option Ty} (hτ : TyOk P τ) {op : BinOp} {t : TypeId} {x y : TV} {px py : Operand} {vx vy : Value} {r : TV} (h : eqBinK op (τ t) x y some = some r)
    (hx : VR μ w x vx) (hy : VR μ w y vy) : Gives P μ w (do eqGuard op t px py vx vy; binOp op t vx vy) r := by
  unfold eqBinK at h
  split at h
  · rename_i T t1 a t2 b hT
    obtain ⟨hb1, h⟩ := castK_eq h
    obtain ⟨hb2, h⟩ := castK_eq h
    obtain rfl := Ty.eq_of_beq hb1
    obtain rfl := Ty.eq_of_beq hb2
    cases hc : t2.comparable with
    | false => rw [hc] at h; cases h
    | true =>
      rw [hc] at h
      simp only [cond_true] at h
      have hf := hτ.fit t _ hT
      obtain ⟨i, z, _, _, _, ⟨_, hh⟩, _⟩ := info_facts hf
      have he := (equal_ok hc).1 (d := 10000) hf (by omega) hx hy
      have hg := run_eqGuard_pv hτ (op := op) (x := px) (y := py) hT hc hx hy
      have hb : ∀ (op : BinOp), (op = .eql ∨ op = .neq) → (binOp op t vx vy).run P w = .ok (.bool (if op = .eql then t2.eqb a b else !t2.eqb a b)) w := by
        intro op hop
        have hq : (Op.equal t vx vy).run P w = .ok (t2.eqb a b) w := he
        rcases hx with ⟨hga, xs, rfl, hx⟩ | ⟨hna, h1⟩
        · rcases hy with ⟨_, ys, rfl, hy⟩ | ⟨hna, _⟩
          · rcases hop with rfl | rfl <;> simp [binOp, hq]
          · rw [show aggTV (.pv t2 b) = aggTV (.pv t2 a) from rfl, hga] at hna; cases hna
        · cases t2 <;> simp [Ty.comparable] at hc <;> simp [aggTV, Ty.isAgg] at hna
          · cases (show [vx] = _ from h1.1)
            obtain ⟨rfl, _⟩ := hy.int
            rcases hop with rfl | rfl <;> simp [binOp, Op.intCmp, Ty.eqb] <;> rfl
          · cases (show [vx] = _ from h1)
            obtain rfl := hy.bool
            rcases hop with rfl | rfl <;> simp [binOp, hq]
          · obtain ⟨s, h1, rfl, _⟩ := h1
            cases h1
            obtain ⟨s', rfl, rfl, _⟩ := hy.str
            rcases hop with rfl | rfl <;> simp [binOp, Op.stringOp, bytesEq, Ty.eqb]
      cases op <;> simp at h <;> subst h
      · exact Gives.bool (by simp [hg, hb .eql (.inl rfl)])
      · exact Gives.bool (by simp [hg, hb .neq (.inr rfl)])
  · cases h
theorem bin_ok {τ : Nat → Option Ty} (hτ : TyOk P τ) {op : BinOp} {t : TypeId} {x y : TV} {px py : Operand} {vx vy : Value} {r : TV} (h : binK op (τ t) x y some = some r)
    (hx : VR μ w x vx) (hy : VR μ w y vy) : Gives P μ w (do eqGuard op t px py vx vy; binOp op t vx vy) r := by
  unfold binK at h
  split at h
  · obtain ⟨rfl, h1⟩ := hx.int
    obtain ⟨rfl, h2⟩ := hy.int
    obtain ⟨v, e, hv⟩ := intBin_ok (P := P) (μ := μ) (w := w) (t := t) h h1 h2
    refine ⟨v, ?_, hv⟩
    have : ∀ k n k' m, (eqGuard op t px py (.int k n) (.int k' m)).run P w = .ok () w := by intros; cases op <;> simp [eqGuard]
    simp [this, e]
  · obtain ⟨v, e, hv⟩ := strBin_ok (P := P) (t := t) h hx hy
    refine ⟨v, ?_, hv⟩
    obtain ⟨s, rfl, _⟩ := hx.str
    obtain ⟨s', rfl, _⟩ := hy.str
    have : ∀ s s', (eqGuard op t px py (.string s) (.string s')).run P w = .ok () w := by intros; cases op <;> simp [eqGuard]
    simp [this, e]
  · exact eqBin_ok hτ h hx hy
theorem un_ok {op : UnOp} {x : TV} {vx : Value} {r : TV} (h : unK op x some = some r) (hx : VR μ w x vx) : Gives P μ w (Op.unary op vx) r := by
  unfold unK at h
  split at h
  · cases h; obtain rfl := hx.bool; exact Gives.bool (by simp [Op.unary])
  · cases h
    obtain ⟨rfl, h1⟩ := hx.int
    exact Gives.int (by simp [Op.unary, Op.intArith]) (wrap_within _ _)
  · cases h
    obtain ⟨rfl, h1⟩ := hx.int
    exact Gives.int (by simp [Op.unary, Op.intBits, bitI, xorM]) (wrap_within _ _)
  · cases h
end
end Go.PE
end

section
namespace Go.PE
set_option linter.unusedSimpArgs false
section
variable {P : Program} {μ : Mp} {w : World} {h hp : Heap}
abbrev HSub (hp h : Heap) : Prop := ∀ o ob, hp o = some ob → h o = some ob

theorem CellsAt.part {b s k n : Nat} {cs : List Value} (hc : CellsAt w b s cs) : CellsAt w b (s + k) ((cs.drop k).take n) := by
  intro j v hj
  rw [List.getElem?_take] at hj
  split at hj
  · rw [List.getElem?_drop] at hj
    rw [Nat.add_assoc]; exact hc _ v hj
  · cases hj
/-- What is known of a row of elements of one's own. -/
def RowF (μ : Mp) (w : World) (o : Oid) (p : List Nat) (t : Ty) (xs : List t.den) : Prop :=
  ∃ e k, μ.ent o = some e ∧ e.row p = some (k, t, xs.length) ∧ (e.vec = true → xs.length ≤ lim ∧ e.len = xs.length ∧ e.ty = t ∧ k = 0) ∧ match e.blk with
    | none => xs = []
    | some b => Owned w b e.sz ∧ e.start + k + xs.length * t.size ≤ e.sz ∧ RowAt w (St μ w) b (e.start + k) t xs
theorem row_ok {α : Type} (hh : HeapR μ w h) (hs : HSub hp h) {o : Oid} {p : List Nat} {K : (t : Ty) → List t.den → Option α} {r : α} (hr : rowK hp o p K = some r) :
    ∃ t xs, K t xs = some r ∧ RowF μ w o p t xs := by
  unfold rowK at hr
  split at hr
  · rename_i t xs hq
    obtain ⟨e, he, hob⟩ := hh.ob _ _ (hs _ _ hq)
    obtain ⟨h1, h2, h3, h4, h5⟩ := hob
    refine ⟨t, xs, hr, e, 0, he, ?_, fun _ => ⟨h4, h3, h2, rfl⟩, ?_⟩
    · simp [Ent.row, h1, h2, h3]
    · cases hk : e.blk with
      | none => rw [hk] at h5; exact h5
      | some b => rw [hk] at h5; exact h5
  · rename_i B c hq
    obtain ⟨e, he, hob⟩ := hh.ob _ _ (hs _ _ hq)
    obtain ⟨h1, h2, h0, b, cs, h3, h4, h5, h6, h7⟩ := hob
    rw [tgetK_eq] at hr
    obtain ⟨v, hv, hr⟩ := Option.bind_eq_some_iff.1 hr
    split at hr
    · rename_i n t xs
      obtain ⟨k, U, g1, g2, g3, g4⟩ := get_part hv h0 h7
      have eU := fit_pv_eq g3
      subst eU
      obtain ⟨f1, f2, f3⟩ := g2
      refine ⟨t, xs, hr, e, k, he, ?_, fun hv => (by rw [h1] at hv; cases hv), ?_⟩
      · simp [Ent.row, h1, h2, g1, f1]
      · rw [h3]
        have hl : cs.length = B.size := fit_size h0 h7
        have hsz : (Ty.arr n t).size = n * t.size := rfl
        refine ⟨h4, by rw [f1]; rw [hsz] at g4; omega, fun i x hx => ?_⟩
        refine ⟨_, ?_, f3 i x hx⟩
        have := (h6.part (k := k) (n := (Ty.arr n t).size)).part (k := i * t.size) (n := t.size)
        exact this
    · cases hr
  · cases hr
theorem row_cells {st : Nat → Prop} {b : Nat} {t : Ty} : ∀ {xs : List t.den} {s : Nat}, RowAt w st b s t xs →
    ∃ c : List Value, c.length = xs.length * t.size ∧ CellsAt w b s c ∧ ∀ (i : Nat) (x : t.den), xs[i]? = some x → Rep w st t x ((c.drop (i * t.size)).take t.size) := by
  intro xs
  induction xs with
  | nil => intro s _; exact ⟨[], by simp, fun j v hj => by simp at hj, fun i x hx => by simp at hx⟩
  | cons y xs ih =>
    intro s hr
    obtain ⟨c0, g1, g2⟩ := hr 0 y rfl
    obtain ⟨c, f1, f2, f3⟩ := ih (s := s + t.size) (fun i x hx => by
      obtain ⟨c, h1, h2⟩ := hr (i + 1) x hx
      exact ⟨c, by rw [show s + t.size + i * t.size = s + (i + 1) * t.size from by rw [Nat.succ_mul]; omega]; exact h1, h2⟩)
    have hl := Rep.length g2
    rw [Nat.zero_mul, Nat.add_zero] at g1
    refine ⟨c0 ++ c, by rw [List.length_append, hl, f1, List.length_cons, Nat.succ_mul, Nat.add_comm], fun j v hj => ?_, fun i x hx => ?_⟩
    · rcases Nat.lt_or_ge j c0.length with hlt | hge
      · rw [List.getElem?_append_left hlt] at hj; exact g1 j v hj
      · rw [List.getElem?_append_right hge] at hj
        have := f2 _ v hj
        rw [show s + t.size + (j - c0.length) = s + j from by omega] at this; exact this
    · cases i with
      | zero =>
        cases hx
        rw [Nat.zero_mul, List.drop_zero, List.take_append_of_le_length (by omega), List.take_of_length_le (by omega)]; exact g2
      | succ i =>
        rw [Nat.succ_mul, Nat.add_comm, ← hl, List.drop_append, List.drop_of_length_le (by omega), List.nil_append, Nat.add_sub_cancel_left, hl]
        exact f3 i x hx
theorem sub_len {α : Type} {xs : List α} {off len : Nat} (h : off + len ≤ xs.length) : (sub xs off len).length = len := by
  unfold sub; rw [List.length_take, List.length_drop]; omega
theorem sub_get {α : Type} {xs : List α} {off len i : Nat} {x : α} (h : (sub xs off len)[i]? = some x) : xs[off + i]? = some x := by
  unfold sub at h
  rw [List.getElem?_take] at h
  split at h
  · rw [List.getElem?_drop] at h; exact h
  · cases h
theorem RowAt.sub {st : Nat → Prop} {b s : Nat} {t : Ty} {xs : List t.den} {off len : Nat} (h : RowAt w st b s t xs) : RowAt w st b (s + off * t.size) t (sub xs off len) := by
  intro i x hx
  obtain ⟨c, h1, h2⟩ := h (off + i) x (sub_get hx)
  exact ⟨c, by rw [show s + off * t.size + i * t.size = s + (off + i) * t.size from by rw [Nat.add_mul]; omega]; exact h1, h2⟩
theorem RowAt.cast {st : Nat → Prop} {b s : Nat} {t t' : Ty} {xs : List t.den} (e : t = t') (h : RowAt w st b s t xs) : RowAt w st b s t' (e ▸ xs) := by subst e; exact h
/-- Where a value's own objects lie. -/
def Mine (μ : Mp) (l : List Oid) (b : Nat) : Prop := ∃ o e, o ∈ l ∧ μ.ent o = some e ∧ e.blk = some b
abbrev StM (μ : Mp) (w : World) (l : List Oid) (b : Nat) : Prop := St μ w b ∨ Mine μ l b
theorem slice_cast {t t' : Ty} (hb : Ty.beq (.slice t) (.slice t') = true) : t = t' := by
  have := Ty.eq_of_beq hb; cases this; rfl
/-- A header over a row, as a pure slice. -/
theorem rep_of_row {l : List Oid} {o : Oid} (ho : o ∈ l) {e : Ent} (he : μ.ent o = some e) {s : Nat} {t : Ty} {xs : List t.den} {sz lim' : Nat} {v : Value} (hv : HdrAt e.blk s sz lim' xs.length v)
    (hbig : xs.length ≤ big) (hr : match e.blk with | none => True | some b => RowAt w (St μ w) b s t xs) : Rep w (StM μ w l) (.slice t) xs [v] := by
  unfold HdrAt at hv
  cases hk : e.blk with
  | none =>
    rw [hk] at hv
    obtain ⟨hv, hx⟩ := hv
    exact ⟨none, 0, by rw [hv, hx], by omega, hbig, rfl⟩
  | some b =>
    rw [hk] at hv hr
    obtain ⟨off, cap, hv, h1, h2, h3⟩ := hv
    refine ⟨some ⟨b, off, none⟩, cap, by rw [hv], h1, hbig, fun hpos => ⟨rfl, .inr ⟨o, e, ho, he, hk⟩, fun i x hx => ?_⟩⟩
    obtain ⟨c, g1, g2⟩ := hr i x hx
    rw [h3 (by omega)]
    exact ⟨c, g1, g2.mono (fun b hb => ⟨.inl hb, rfl⟩)⟩
theorem pure_ok {α : Type} (hh : HeapR μ w h) (hs : HSub hp h) : ∀ {v : TV} {T : Ty} {K : T.den → Option α} {r : α} {cs : List Value}, pureK hp v T K = some r → R μ w v false cs →
    ∃ x, K x = some r ∧ Rep w (StM μ w (tvIds v)) T x cs := by
  intro v
  induction v with
  | pv t x =>
    intro T K r cs hk hr
    obtain ⟨hb, hk⟩ := castK_eq hk
    exact ⟨_, hk, Rep.cast hb (Rep.mono (fun b hb => ⟨.inl hb, rfl⟩) (show Rep w (St μ w) t x cs from hr))⟩
  | full t x =>
    intro T K r cs hk hr
    obtain ⟨hb, hk⟩ := castK_eq hk
    obtain ⟨a, h1, h2⟩ := hr
    exact ⟨_, hk, Rep.cast hb (Rep.mono (fun b hb => ⟨.inl hb, rfl⟩) h2)⟩
  | nils =>
    intro T K r cs hk hr
    cases T <;> try (cases hk; done)
    exact ⟨[], hk, none, 0, hr, Nat.le_refl _, Nat.zero_le _, rfl⟩
  | own o =>
    intro T K r cs hk hr
    cases T <;> try (cases hk; done)
    rename_i t
    obtain ⟨t', xs, hk, e, k, he, hrow, hvec, hb⟩ := row_ok hh hs hk
    obtain ⟨hbq, hk⟩ := castK_eq hk
    obtain rfl := slice_cast hbq
    obtain ⟨a, n, c, rfl, hu, hx⟩ := hr
    obtain ⟨h1, h2⟩ := hx e he
    obtain ⟨g1, g2, g3, g4⟩ := hvec h1
    refine ⟨xs, hk, rep_of_row (o := o) (by simp [tvIds]) he (by rw [← g2]; exact h2) (by unfold big; unfold lim at g1; omega) ?_⟩
    cases hbk : e.blk with
    | none => trivial
    | some b => rw [hbk] at hb; rw [g4, Nat.add_zero] at hb; exact hb.2.2
  | hdr o p off len =>
    intro T K r cs hk hr
    cases T <;> try (cases hk; done)
    rename_i t
    obtain ⟨t', xs, hk, e, k, he, hrow, hvec, hb⟩ := row_ok hh hs hk
    obtain ⟨hbq, hk⟩ := castK_eq hk
    obtain rfl := slice_cast hbq
    obtain ⟨a, c, rfl, _, hbig, hu, hx⟩ := hr
    obtain ⟨k', t', n, h1, h2, h3⟩ := hx e he
    rw [hrow] at h1
    cases h1
    have hlen := sub_len h2
    refine ⟨sub xs off len, hk, rep_of_row (o := o) (by simp [tvIds]) he (by rw [hlen]; exact h3) (by rw [hlen]; exact hbig) ?_⟩
    cases hbk : e.blk with
    | none => trivial
    | some b => rw [hbk] at hb; exact hb.2.2.sub
  | ncons a as ih ih' =>
    intro T K r cs hk hr
    cases T <;> try (cases hk; done)
    obtain ⟨c, c', rfl, h1, h2⟩ := hr
    obtain ⟨x, hk, hx⟩ := ih hk h1
    obtain ⟨y, hk, hy⟩ := ih' hk h2
    refine ⟨(x, y), hk, c, c', rfl, hx.mono (fun b hb => ⟨?_, rfl⟩), hy.mono (fun b hb => ⟨?_, rfl⟩)⟩
    · rcases hb with hb | ⟨o, e, h1, h2⟩
      · exact .inl hb
      · exact .inr ⟨o, e, by simp [tvIds, h1], h2⟩
    · rcases hb with hb | ⟨o, e, h1, h2⟩
      · exact .inl hb
      · exact .inr ⟨o, e, by simp [tvIds, h1], h2⟩
  | _ => intro T K r cs hk hr; cases T <;> cases hk

theorem len_ok {τ : Nat → Option Ty} (hτ : TyOk P τ) (hh : HeapR μ w h) (hs : HSub hp h) {t : TypeId} {T : Ty} {x : TV} {v : Value} {n : Int} {ats : Array TypeId} {ty : TypeId} (ht : τ t = some T) (hf : fitB T x = true)
    (hat : ats[0]? = some t) (hl : lenK hp x some = some n) (hx : VR μ w x v) : Gives P μ w (Builtin.len_ ats ty #[v]) (.pv (.int .i64) n) := by
  have hT := hτ.fit t T ht
  have hbig : ∀ m : Nat, m ≤ big → IntKind.min .i64 ≤ (m : Int) ∧ (m : Int) ≤ IntKind.max .i64 := by
    intro m hm
    have h1 : IntKind.min .i64 = -9223372036854775808 := rfl
    have h2 : IntKind.max .i64 = 9223372036854775807 := rfl
    unfold big at hm
    omega
  have hlb : lim ≤ big := by decide
  have go : ∀ (m : Nat), (Builtin.len_ ats ty #[v]).run P w = .ok (goInt m) w → m ≤ big → n = (m : Int) → Gives P μ w (Builtin.len_ ats ty #[v]) (.pv (.int .i64) n) := by
    intro m h1 h2 h3
    rw [h3]; exact ⟨_, h1, VR.mk_int (hbig m h2)⟩
  -- the underlying type
  have und : ∀ {U : Ty}, T = .slice U → ∃ u, P.underlying t = some (.slice u) := by
    intro U e
    subst e
    simp only [fitTy, Bool.and_eq_true] at hT
    obtain ⟨_, hT⟩ := hT
    split at hT
    · exact ⟨_, ‹_›⟩
    · cases hT
  have sl : ∀ {U : Ty} {a : Option Addr} {m c : Nat}, T = .slice U → v = .slice a m c → (Builtin.len_ ats ty #[v]).run P w = .ok (goInt m) w := by
    intro U a m c e1 e2
    obtain ⟨u, hu⟩ := und e1
    subst e2
    simp [Builtin.len_, hat, run_underlying_of hu]
  unfold lenK at hl
  split at hl
  · rename_i U xs
    cases hl
    have eT := fit_pv_eq hf
    obtain ⟨a, cap, h1, h2, h3, h4⟩ := hx.scal rfl
    cases h1
    exact go _ (sl eT.symm rfl) h3 rfl
  · rename_i xs
    cases hl
    have eT := fit_pv_eq hf
    subst eT
    obtain ⟨s, rfl, rfl, h1⟩ := hx.str
    simp only [fitTy, Bool.and_eq_true] at hT
    obtain ⟨_, hT⟩ := hT
    cases hu : P.underlying t with
    | none => rw [hu] at hT; cases hT
    | some u =>
      rw [hu] at hT
      cases u <;> simp at hT
      refine go s.size (by simp [Builtin.len_, hat, run_underlying_of hu]) h1 ?_
      rw [List.length_map, Array.length_toList]; rfl
  · rename_i m U xs
    cases hl
    have eT := fit_pv_eq hf
    subst eT
    obtain ⟨i, z, _, _, _, ⟨hsz, _⟩, _⟩ := info_facts hT
    simp only [fitTy, Bool.and_eq_true] at hT
    obtain ⟨_, hT⟩ := hT
    cases hu : P.underlying t with
    | none => rw [hu] at hT; cases hT
    | some u =>
      rw [hu] at hT
      cases u <;> simp only [Bool.and_eq_true] at hT <;> try (cases hT; done)
      obtain ⟨⟨⟨⟨hn, _⟩, _⟩, hpos⟩, _⟩ := hT
      have := natBeq_eq hn
      subst this
      refine go m (by simp [Builtin.len_, hat, run_underlying_of hu]) ?_ rfl
      have hp : 0 < U.size := by simpa [pos] using hpos
      have : m * 1 ≤ m * U.size := Nat.mul_le_mul_left _ hp
      have h4 : m * U.size ≤ 4096 := hsz
      unfold big; omega
  · cases hl
    obtain ⟨U, eT⟩ : ∃ U, T = .slice U := by cases T <;> first | exact ⟨_, rfl⟩ | (simp [fitB] at hf)
    have h1 : [v] = [Value.slice none 0 0] := hx.scal rfl
    cases h1
    exact go 0 (sl eT rfl) (Nat.zero_le _) rfl
  · rename_i o
    obtain ⟨U, eT⟩ : ∃ U, T = .slice U := by cases T <;> first | exact ⟨_, rfl⟩ | (simp [fitB] at hf)
    split at hl
    · rename_i t' xs hq
      cases hl
      obtain ⟨e, he, g1, g2, g3, g4, g5⟩ := hh.ob _ _ (hs _ _ hq)
      obtain ⟨a, m, c, h1, hu, h2⟩ := hx.scal rfl
      cases h1
      obtain ⟨_, h3⟩ := h2 e he
      have hm : m = xs.length := by
        unfold HdrAt at h3
        cases hk : e.blk with
        | none => rw [hk] at h3 g5; obtain ⟨h3, _⟩ := h3; cases h3; simp only [] at g5; rw [g5]; rfl
        | some b => rw [hk] at h3; obtain ⟨_, _, h3, _⟩ := h3; cases h3; exact g3
      exact go _ (sl eT rfl) (by omega) (by rw [hm])
    · cases hl
  · rename_i o p off len
    cases hl
    obtain ⟨U, eT⟩ : ∃ U, T = .slice U := by cases T <;> first | exact ⟨_, rfl⟩ | (simp [fitB] at hf)
    obtain ⟨a, c, h1, _, hb, _⟩ := hx.scal rfl
    cases h1
    exact go _ (sl eT rfl) hb rfl
  · cases hl
end
end Go.PE
end

section
namespace Go.PE
set_option linter.unusedSimpArgs false
section
variable {P : Program} {μ : Mp} {w : World} {h hp : Heap}

theorem offs_nil (T : Ty) : T.offs [] = some (0, T) := by cases T <;> rfl
theorem offs_append : ∀ {p : List Nat} {T U : Ty} {k : Nat}, T.offs p = some (k, U) → ∀ q, T.offs (p ++ q) = (U.offs q).map fun x => (k + x.1, x.2) := by
  intro p
  have opt : ∀ (o : Option (Nat × Ty)), o = o.map fun q => (0 + q.1, q.2) := by intro o; cases o <;> simp
  induction p with
  | nil => intro T U k h q; rw [offs_nil] at h; cases h; exact opt _
  | cons i p ih =>
    -- by the type; a field goes on in what is behind
    have key : ∀ (T : Ty) (i : Nat) (U : Ty) (k : Nat), T.offs (i :: p) = some (k, U) → ∀ q, T.offs (i :: p ++ q) = (U.offs q).map fun x => (k + x.1, x.2) := by
      intro T
      induction T with
      | arr n t _ =>
        intro i U k h q
        rw [offs_arr] at h
        cases ht : t.offs p with
        | none => rw [ht] at h; cases h
        | some x =>
          obtain ⟨k', U'⟩ := x
          rw [ht] at h; cases h
          show (Ty.arr n t).offs (i :: (p ++ q)) = _
          rw [offs_arr, ih ht q]
          cases U.offs q <;> simp [Nat.add_assoc]
      | cons t ts _ iht =>
        intro i U k h q
        cases i with
        | zero => exact ih (T := t) h q
        | succ i =>
          have h' : (match ts.offs (i :: p) with | some (o, u) => some (t.size + o, u) | none => none) = some (k, U) := h
          cases ht : ts.offs (i :: p) with
          | none => rw [ht] at h'; cases h'
          | some x =>
            obtain ⟨k', U'⟩ := x
            rw [ht] at h'; cases h'
            show (match ts.offs (i :: p ++ q) with | some (o, u) => some (t.size + o, u) | none => none) = _
            rw [iht i _ _ ht q]
            cases U.offs q <;> simp [Nat.add_assoc]
      | _ => intro i U k h q; cases i <;> cases h
    intro T U k h q
    exact key T i U k h q
theorem struct_field : ∀ {T : Ty} {fs : List Field} {off i k : Nat} {U : Ty}, fitTy P T (.flds fs off) = true → T.offs [i] = some (k, U) →
    ∃ f, fs[i]? = some f ∧ f.offset = off + k ∧ fitTy P U (.id f.type) = true ∧ 0 < U.size := by
  intro T
  induction T with
  | cons A As _ ih =>
    intro fs off i k U hT ho
    cases fs with
    | nil => cases hT
    | cons f l =>
      simp only [fitTy, Bool.and_eq_true] at hT
      obtain ⟨⟨⟨⟨h1, h2⟩, hp⟩, hT1⟩, hT2⟩ := hT
      cases i with
      | zero =>
        have ho' : A.offs [] = some (k, U) := ho
        rw [offs_nil] at ho'; cases ho'
        exact ⟨f, rfl, by have := natBeq_eq h1; omega, hT1, by simpa [pos] using hp⟩
      | succ i =>
        have ho' : (match As.offs [i] with | some (o, u) => some (A.size + o, u) | none => none) = some (k, U) := ho
        cases hq : As.offs [i] with
        | none => rw [hq] at ho'; cases ho'
        | some x =>
          obtain ⟨k', U'⟩ := x
          rw [hq] at ho'; cases ho'
          obtain ⟨g, g1, g2, g3, g4⟩ := ih hT2 hq
          exact ⟨g, g1, by omega, g3, g4⟩
  | nil => intro fs off i k U hT ho; cases i <;> cases ho
  | _ => intro fs off i k U hT; cases hT
/-- The fields of a struct type. -/
theorem struct_und {T : Ty} {t : TypeId} {i k : Nat} {U : Ty} (hT : fitTy P T (.id t) = true) (hs : ∃ a b, T = .cons a b) (ho : T.offs [i] = some (k, U)) :
    ∃ fs f, P.underlying t = some (.struct fs) ∧ fs[i]? = some f ∧ f.offset = k ∧ fitTy P U (.id f.type) = true ∧ 0 < U.size := by
  obtain ⟨A, As, rfl⟩ := hs
  simp only [fitTy, Bool.and_eq_true] at hT
  obtain ⟨_, hT⟩ := hT
  cases hu : P.underlying t with
  | none => rw [hu] at hT; cases hT
  | some u =>
    rw [hu] at hT
    cases u <;> simp only [Bool.and_eq_true] at hT <;> try (cases hT; done)
    rename_i fs
    obtain ⟨hT, _⟩ := hT
    cases hl : fs.toList with
    | nil => rw [hl] at hT; cases hT
    | cons f l =>
      rw [hl] at hT
      simp only [Bool.and_eq_true] at hT
      have hT' : fitTy P (.cons A As) (.flds fs.toList 0) = true := by
        rw [hl]; simp only [fitTy, Bool.and_eq_true]
        obtain ⟨⟨⟨⟨h1, h2⟩, hp⟩, hT1⟩, hT2⟩ := hT
        exact ⟨⟨⟨⟨h1, h2⟩, hp⟩, hT1⟩, by rw [Nat.zero_add]; exact hT2⟩
      obtain ⟨g, g1, g2, g3, g4⟩ := struct_field hT' ho
      exact ⟨fs, g, rfl, by simpa using g1, by omega, g3, g4⟩
theorem run_fieldAt {T U : Ty} {t : TypeId} {i k : Nat} (hT : fitTy P T (.id t) = true) (hs : ∃ a b, T = .cons a b) (ho : T.offs [i] = some (k, U)) (b off : Nat) :
    (Instr.fieldAt t (.pointer (some ⟨b, off, none⟩)) i).run P w = .ok (.pointer (some ⟨b, off + k, none⟩)) w := by
  obtain ⟨fs, f, h1, h2, h3, h4, h5⟩ := struct_und hT hs ho
  have hne : U.size ≠ 0 := by omega
  simp [Instr.fieldAt, run_underlying_of h1, h2, Instr.sureAddr, fieldPlace, run_sizeOf h4, hne, add_addr, h3]
theorem bif_some {α : Type} {c : Bool} {x : Option α} {r : α} (h : (bif c then x else none) = some r) : c = true ∧ x = some r := by
  cases c with
  | false => cases h
  | true => exact ⟨rfl, h⟩
theorem bif_none {α : Type} {c : Bool} {x : Option α} {r : α} (h : (bif c then none else x) = some r) : c = false ∧ x = some r := by
  cases c with
  | true => cases h
  | false => exact ⟨rfl, h⟩
theorem isField_facts {T : Ty} {f : Nat} (h : isField T f = true) : (∃ a b, T = .cons a b) ∧ ∃ k U, T.offs [f] = some (k, U) := by
  cases T <;> try (cases h; done)
  rename_i a b
  refine ⟨⟨a, b, rfl⟩, ?_⟩
  have h' : ((Ty.cons a b).offs [f]).isSome = true := h
  obtain ⟨⟨k, U⟩, hq⟩ := Option.isSome_iff_exists.1 h'
  exact ⟨k, U, hq⟩
theorem Addr.eta {a : Addr} {b off : Nat} (h : a = ⟨a.block, off, none⟩) (hb : a.block = b) : a = ⟨b, off, none⟩ := by rw [h, ← hb]

theorem fieldAddr_ok (hh : HeapR μ w h) (hs : HSub hp h) {T : Ty} {t : TypeId} (hT : fitTy P T (.id t) = true) {x r : TV} {f : Nat} {v : Value} (hk : fieldAddrK hp T x f some = some r)
    (hx : VR μ w x v) : Gives P μ w (Instr.fieldAt t v f) r := by
  unfold fieldAddrK at hk
  replace hk := bif_some hk; obtain ⟨hfield, hk⟩ := hk
  obtain ⟨hcons, k, U, hU⟩ := isField_facts hfield
  split at hk
  · rename_i o p
    obtain ⟨a, h1, hu, h2⟩ := hx.scal rfl
    cases h1
    -- a place in an object
    have go : ∀ (e : Ent) (k0 : Nat), μ.ent o = some e → e.off p = some k0 → e.off (p ++ [f]) = some (k0 + k) → r = .ptr o (p ++ [f]) → Gives P μ w (Instr.fieldAt t (.pointer (some a)) f) r := by
      intro e k0 he ho ho' hr
      obtain ⟨k1, g1, g2, g3⟩ := h2 e he
      rw [ho] at g1; cases g1
      refine ⟨.pointer (some ⟨a.block, e.start + k0 + k, none⟩), ?_, ?_⟩
      · rw [g3]; exact run_fieldAt hT hcons hU _ _
      · rw [hr]
        refine .inr ⟨rfl, ⟨a.block, e.start + k0 + k, none⟩, rfl, hu, fun e' he' => ?_⟩
        rw [he] at he'; cases he'
        exact ⟨k0 + k, ho', g2, by rw [Nat.add_assoc]⟩
    split at hk
    · rename_i B c hq
      obtain ⟨e, he, g1, g2, _⟩ := hh.ob _ _ (hs _ _ hq)
      cases hp' : B.offs p with
      | none => rw [hp'] at hk; cases hk
      | some y =>
        obtain ⟨k0, T'⟩ := y
        rw [hp'] at hk
        replace hk := bif_some hk; obtain ⟨hb, hk⟩ := hk
        obtain rfl := Ty.eq_of_beq hb
        cases hk
        refine go e k0 he ?_ ?_ rfl
        · simp [Ent.off, g1, g2, hp']
        · simp [Ent.off, g1, g2, offs_append hp' [f], hU]
    · rename_i u xs hq
      obtain ⟨e, he, g1, g2, _⟩ := hh.ob _ _ (hs _ _ hq)
      cases p with
      | nil => cases hk
      | cons i p =>
        simp only [] at hk
        cases hp' : u.offs p with
        | none => rw [hp'] at hk; cases hk
        | some y =>
          obtain ⟨k0, T'⟩ := y
          rw [hp'] at hk
          replace hk := bif_some hk; obtain ⟨hb, hk⟩ := hk
          obtain rfl := Ty.eq_of_beq hb
          cases hk
          refine go e (i * u.size + k0) he ?_ ?_ rfl
          · simp [Ent.off, g1, g2, hp']
          · simp [Ent.off, g1, g2, offs_append hp' [f], hU, Nat.add_assoc]
    · cases hk
  · rename_i T' z
    replace hk := bif_some hk; obtain ⟨hb, hk⟩ := hk
    obtain rfl := Ty.eq_of_beq hb
    split at hk
    · rename_i u y hy
      cases hk
      obtain ⟨b, off, c, h1, h2, h3, h4⟩ := hx.scal rfl
      cases h1
      obtain ⟨k', U', g1, g2, g3, g4, _⟩ := field_part (μ := μ) (w := w) (T := T') hy fit_pv h4
      have := g1 []
      rw [hU, offs_nil] at this
      simp at this
      obtain ⟨rfl, rfl⟩ := this
      have eU := fit_pv_eq g3
      subst eU
      exact ⟨_, run_fieldAt hT hcons hU b off, .inr ⟨rfl, b, off + k, _, rfl, h2, h3.part, g2⟩⟩
    · cases hk
  · cases hk

theorem inb_facts {i : Int} {n : Nat} (h : inb i n = true) : 0 ≤ i ∧ i < (n : Int) := by
  unfold inb at h
  simp only [Bool.and_eq_true, decide_eq_true_eq] at h; exact h
theorem slice_und {U : Ty} {t : TypeId} (hT : fitTy P (.slice U) (.id t) = true) : ∃ u, P.underlying t = some (.slice u) ∧ fitTy P U (.id u) = true ∧ 0 < U.size ∧ U.plain = true := by
  simp only [fitTy, Bool.and_eq_true] at hT
  obtain ⟨_, hT⟩ := hT
  cases hu : P.underlying t with
  | none => rw [hu] at hT; cases hT
  | some u =>
    rw [hu] at hT
    cases u <;> simp only [Bool.and_eq_true] at hT <;> try (cases hT; done)
    obtain ⟨⟨h1, h2⟩, h3⟩ := hT
    exact ⟨_, rfl, h3, by simpa [pos] using h2, h1⟩
theorem arr_und {U : Ty} {n : Nat} {t : TypeId} (hT : fitTy P (.arr n U) (.id t) = true) : ∃ u, P.underlying t = some (.array n u) ∧ fitTy P U (.id u) = true ∧ 0 < U.size ∧ U.plain = true ∧ 1 < n ∧ n ≤ 4096 := by
  obtain ⟨i, z, _, _, _, ⟨hsz, _⟩, _⟩ := info_facts hT
  simp only [fitTy, Bool.and_eq_true] at hT
  obtain ⟨_, hT⟩ := hT
  cases hu : P.underlying t with
  | none => rw [hu] at hT; cases hT
  | some u =>
    rw [hu] at hT
    cases u <;> simp only [Bool.and_eq_true] at hT <;> try (cases hT; done)
    obtain ⟨⟨⟨⟨h1, h1'⟩, h2⟩, h3⟩, h4⟩ := hT
    have := natBeq_eq h1
    subst this
    have hp : 0 < U.size := by simpa [pos] using h3
    have h5 : n * 1 ≤ n * U.size := Nat.mul_le_mul_left _ hp
    have h6 : n * U.size ≤ 4096 := hsz
    have h7 : 1 < n := by simpa using h1'
    exact ⟨_, rfl, h4, hp, h2, h7, by omega⟩
theorem run_indexAt_slice {U : Ty} {t : TypeId} (hT : fitTy P (.slice U) (.id t) = true) {k : IntKind} {i : Int} {b off len cap : Nat} (h0 : 0 ≤ i) (h1 : i < (len : Int)) :
    (Instr.indexAt t (.slice (some ⟨b, off, none⟩) len cap) (.int k i)).run P w = .ok (.pointer (some ⟨b, off + i.toNat * U.size, none⟩)) w := by
  obtain ⟨u, hu, hf, _⟩ := slice_und hT
  simp [Instr.indexAt, asIntOf, run_underlying_of hu, h0, h1, run_sizeOf hf, add_addr]
theorem run_indexAt_slice' {U : Ty} {t : TypeId} (hT : fitTy P (.slice U) (.id t) = true) {k : IntKind} {i : Int} {a : Addr} {len cap : Nat} (h0 : 0 ≤ i) (h1 : i < (len : Int)) :
    (Instr.indexAt t (.slice (some a) len cap) (.int k i)).run P w = .ok (.pointer (some (a.add (i.toNat * U.size)))) w := by
  obtain ⟨u, hu, hf, _⟩ := slice_und hT
  simp [Instr.indexAt, asIntOf, run_underlying_of hu, h0, h1, run_sizeOf hf]
theorem run_indexAt_arr {U : Ty} {n : Nat} {t : TypeId} (hT : fitTy P (.arr n U) (.id t) = true) {k : IntKind} {i : Int} {b off : Nat} (h0 : 0 ≤ i) (h1 : i < (n : Int)) :
    (Instr.indexAt t (.pointer (some ⟨b, off, none⟩)) (.int k i)).run P w = .ok (.pointer (some ⟨b, off + i.toNat * U.size, none⟩)) w := by
  obtain ⟨u, hu, hf, _⟩ := arr_und hT
  simp [Instr.indexAt, asIntOf, Instr.sureAddr, run_underlying_of hu, h0, h1, run_sizeOf hf, add_addr]
theorem rd_get {t : Ty} {xs : List t.den} {i : Int} (h0 : 0 ≤ i) (h1 : i < (xs.length : Int)) : xs[i.toNat]? = some (rd t xs i) := by
  unfold rd
  have : i.toNat < xs.length := by omega
  rw [List.getElem?_eq_getElem this, List.getD_eq_getElem?_getD, List.getElem?_eq_getElem this]; rfl

theorem indexAddr_ok (hh : HeapR μ w h) (hs : HSub hp h) {T : Ty} {t : TypeId} (hT : fitTy P T (.id t) = true) {x r : TV} {k : IntKind} {i : Int} {v : Value} (hk : indexAddrK hp T x i some = some r)
    (hx : VR μ w x v) : Gives P μ w (Instr.indexAt t v (.int k i)) r := by
  unfold indexAddrK at hk
  split at hk
  · rename_i u xs
    replace hk := bif_some hk; obtain ⟨hb, hk⟩ := hk
    replace hk := bif_some hk; obtain ⟨hi, hk⟩ := hk
    obtain ⟨h0, h1⟩ := inb_facts hi
    obtain rfl := Ty.eq_of_beq hb
    cases hk
    obtain ⟨a, cap, g1, g2, g3, g4⟩ := hx.scal rfl
    cases g1
    cases a with
    | none => simp only [] at g4; omega
    | some a =>
      obtain ⟨g5, g6, g7⟩ := g4 (by omega)
      obtain ⟨c, f1, f2⟩ := g7 i.toNat _ (rd_get h0 h1)
      have ha : a = ⟨a.block, a.off, none⟩ := by cases a; simp at g5; subst g5; rfl
      refine ⟨.pointer (some ⟨a.block, a.off + i.toNat * u.size, none⟩), ?_, .inr ⟨rfl, a.block, _, c, rfl, g6, f1, f2⟩⟩
      rw [ha]; exact run_indexAt_slice hT h0 h1
  · rename_i n u xs
    replace hk := bif_some hk; obtain ⟨hb, hk⟩ := hk
    replace hk := bif_some hk; obtain ⟨hi, hk⟩ := hk
    obtain ⟨h0, h1⟩ := inb_facts hi
    obtain rfl := Ty.eq_of_beq hb
    cases hk
    obtain ⟨b, off, c, g1, g2, g3, g4⟩ := hx.scal rfl
    cases g1
    obtain ⟨f1, f2, f3⟩ := g4
    exact ⟨_, run_indexAt_arr hT h0 h1, .inr ⟨rfl, b, _, _, rfl, g2, g3.part, f3 i.toNat _ (rd_get h0 (by rw [f1]; exact h1))⟩⟩
  · rename_i o
    replace hk := row_ok hh hs hk; obtain ⟨u, xs, hk, e, k0, he, hrow, hvec, hblk⟩ := hk
    replace hk := bif_some hk; obtain ⟨hb, hk⟩ := hk
    replace hk := bif_some hk; obtain ⟨hi, hk⟩ := hk
    obtain ⟨h0, h1⟩ := inb_facts hi
    obtain rfl := Ty.eq_of_beq hb
    cases hk
    obtain ⟨a, m, c, g1, hu, g2⟩ := hx.scal rfl
    cases g1
    obtain ⟨g3, g4⟩ := g2 e he
    obtain ⟨f1, f2, f3, f4⟩ := hvec g3
    unfold HdrAt at g4
    cases hbk : e.blk with
    | none => rw [hbk] at hblk; simp only [] at hblk; rw [hblk] at h1; simp at h1; omega
    | some b =>
      rw [hbk] at g4
      obtain ⟨off, cap, g5, g6, g7, g8⟩ := g4
      cases g5
      have : off = e.start := g8 (by omega)
      subst this
      refine ⟨_, run_indexAt_slice hT h0 (by rw [f2]; exact h1), .inr ⟨rfl, ⟨b, e.start + i.toNat * u.size, none⟩, rfl, hu, fun e' he' => ?_⟩⟩
      rw [he] at he'; cases he'
      exact ⟨i.toNat * u.size, by simp [Ent.off, g3, f3, offs_nil], hbk, rfl⟩
  · rename_i o p off len
    replace hk := row_ok hh hs hk; obtain ⟨u, xs, hk, e, k0, he, hrow, hvec, hblk⟩ := hk
    replace hk := bif_some hk; obtain ⟨hb, hk⟩ := hk
    replace hk := bif_some hk; obtain ⟨hi, hk⟩ := hk
    obtain ⟨h0, h1⟩ := inb_facts hi
    obtain rfl := Ty.eq_of_beq hb
    cases hk
    obtain ⟨a, c, g1, ga, gb, hu, g2⟩ := hx.scal rfl
    cases g1
    obtain ⟨k1, u1, n1, g3, g4, g5⟩ := g2 e he
    rw [hrow] at g3; cases g3
    unfold HdrAt at g5
    cases hbk : e.blk with
    | none => rw [hbk] at g5; omega
    | some b =>
      rw [hbk] at g5
      obtain ⟨off', cap, g5, g6, g7, g8⟩ := g5
      cases g5
      have : off' = e.start + k0 + off * u.size := g8 (by omega)
      subst this
      refine ⟨_, run_indexAt_slice hT h0 h1, .inr ⟨rfl, ⟨b, e.start + k0 + off * u.size + i.toNat * u.size, none⟩, rfl, hu, fun e' he' => ?_⟩⟩
      rw [he] at he'; cases he'
      have hrow' := hrow
      unfold Ent.row at hrow'
      cases hv : e.vec with
      | true =>
        rw [hv] at hrow'
        cases p with
        | cons => cases hrow'
        | nil =>
          simp at hrow'
          obtain ⟨r1, r2, r3⟩ := hrow'
          refine ⟨(off + i.toNat) * u.size, by simp [Ent.off, hv, r2, offs_nil], hbk, ?_⟩
          rw [← r1, Nat.add_mul]; congr 1; omega
      | false =>
        rw [hv] at hrow'
        simp only [] at hrow'
        split at hrow'
        · rename_i k2 n2 t2 hq
          cases hrow'
          refine ⟨k0 + (off + i.toNat) * u.size, ?_, hbk, ?_⟩
          · simp only [Ent.off, hv]
            rw [offs_append hq, offs_arr, offs_nil]; rfl
          · rw [Nat.add_mul]; congr 1; omega
        · cases hrow'
  · rename_i o p
    split at hk
    · rename_i B c hq
      obtain ⟨e, he, g1, g2, _⟩ := hh.ob _ _ (hs _ _ hq)
      split at hk
      · rename_i k0 n u hp'
        replace hk := bif_some hk; obtain ⟨hb, hk⟩ := hk
        replace hk := bif_some hk; obtain ⟨hi, hk⟩ := hk
        obtain ⟨h0, h1⟩ := inb_facts hi
        obtain rfl := Ty.eq_of_beq hb
        cases hk
        obtain ⟨a, f1, hu, f2⟩ := hx.scal rfl
        cases f1
        obtain ⟨k1, f3, f4, f5⟩ := f2 e he
        have hoff : e.off p = some k0 := by simp [Ent.off, g1, g2, hp']
        rw [hoff] at f3; cases f3
        refine ⟨.pointer (some ⟨a.block, e.start + k0 + i.toNat * u.size, none⟩), ?_, .inr ⟨rfl, ⟨a.block, e.start + k0 + i.toNat * u.size, none⟩, rfl, hu, fun e' he' => ?_⟩⟩
        · rw [f5]; exact run_indexAt_arr hT h0 h1
        · rw [he] at he'; cases he'
          refine ⟨k0 + i.toNat * u.size, ?_, f4, by rw [Nat.add_assoc]⟩
          simp only [Ent.off, g1, g2]
          rw [offs_append hp', offs_arr, offs_nil]; rfl
      · cases hk
    · cases hk
  · cases hk
end
end Go.PE
end
