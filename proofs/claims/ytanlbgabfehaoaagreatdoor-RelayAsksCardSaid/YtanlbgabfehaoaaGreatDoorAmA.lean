/- The abstract machine; how it stands to the model; its operands. -/
import GoSem.Dispatch
import GoSem.Core.Utf8
import Derived.WalkKit
import Derived.ArgAppend
namespace Go.Am

/-! ### numbers as paths, tries -/
inductive P where | z | l (p : P) | r (p : P)
  deriving DecidableEq, Inhabited
/-- 0 is z; 2 n + 1 is l, 2 n + 2 is r -/
def P.num : P → Nat | .z => 0 | .l p => 2 * p.num + 1 | .r p => 2 * p.num + 2
noncomputable def P.succ (p : P) : P := P.rec (motive := fun _ => P) (.l .z) (fun p _ => .r p) (fun _ ih => .l ih) p
noncomputable def P.beq (p : P) : P → Bool := P.rec (motive := fun _ => P → Bool)
  (fun q => P.casesOn (motive := fun _ => Bool) q true (fun _ => false) (fun _ => false))
  (fun _ ih q => P.casesOn (motive := fun _ => Bool) q false ih (fun _ => false))
  (fun _ ih q => P.casesOn (motive := fun _ => Bool) q false (fun _ => false) ih) p

inductive T (α : Type) where
  | nil
  | node (l : T α) (v : Option α) (r : T α)
  deriving Inhabited
noncomputable def T.get {α : Type} (t : T α) (p : P) : Option α :=
  P.rec (motive := fun _ => T α → Option α)
    (fun t => T.casesOn (motive := fun _ => Option α) t none (fun _ v _ => v))
    (fun _ ih t => T.casesOn (motive := fun _ => Option α) t none (fun l _ _ => ih l))
    (fun _ ih t => T.casesOn (motive := fun _ => Option α) t none (fun _ _ r => ih r)) p t
noncomputable def T.set {α : Type} (t : T α) (p : P) (a : α) : T α :=
  P.rec (motive := fun _ => T α → T α)
    (fun t => T.casesOn (motive := fun _ => T α) t (.node .nil (some a) .nil) (fun l _ r => .node l (some a) r))
    (fun _ ih t => T.casesOn (motive := fun _ => T α) t (.node (ih .nil) none .nil) (fun l v r => .node (ih l) v r))
    (fun _ ih t => T.casesOn (motive := fun _ => T α) t (.node .nil none (ih .nil)) (fun l v r => .node l v (ih r))) p t

/-- small numbers by successors -/
inductive I where | z | s (i : I)
  deriving DecidableEq, Inhabited
def I.num : I → Nat | .z => 0 | .s i => i.num + 1

/-! ### lists by recursors -/
noncomputable def nth {α : Type} (l : List α) (k : Nat) : Option α :=
  List.rec (motive := fun _ => Nat → Option α) (fun _ => none) (fun a _ ih k => Nat.casesOn (motive := fun _ => Option α) k (some a) ih) l k
noncomputable def nthI {α : Type} (d : α) (i : I) (l : List α) : α :=
  I.rec (motive := fun _ => List α → α) (fun l => List.casesOn (motive := fun _ => α) l d (fun a _ => a)) (fun _ ih l => List.casesOn (motive := fun _ => α) l d (fun _ t => ih t)) i l
noncomputable def app {α : Type} (a b : List α) : List α := List.rec (motive := fun _ => List α) b (fun x _ ih => x :: ih) a
noncomputable def mapL {α β : Type} (f : α → β) (a : List α) : List β := List.rec (motive := fun _ => List β) [] (fun x _ ih => f x :: ih) a
noncomputable def len {α : Type} (a : List α) : Nat := List.rec (motive := fun _ => Nat → Nat) (fun n => n) (fun _ _ ih n => ih (Nat.succ n)) a 0
noncomputable def dropN {α : Type} (k : Nat) (l : List α) : List α :=
  List.rec (motive := fun _ => Nat → List α) (fun _ => []) (fun a t ih k => Nat.casesOn (motive := fun _ => List α) k (a :: t) ih) l k
/-- the first n, if there are so many -/
noncomputable def takeN {α : Type} (n : Nat) (l : List α) : Option (List α) :=
  Nat.rec (motive := fun _ => List α → Option (List α)) (fun _ => some [])
    (fun _ ih l => List.casesOn (motive := fun _ => Option (List α)) l none (fun a t => Option.casesOn (motive := fun _ => Option (List α)) (ih t) none (fun r => some (a :: r)))) n l
/-- the list with vs written from o on, if they fit -/
noncomputable def putN {α : Type} (vs : List α) (l : List α) : Option (List α) :=
  List.rec (motive := fun _ => List α → Option (List α)) (fun l => some l)
    (fun v _ ih l => List.casesOn (motive := fun _ => Option (List α)) l none (fun _ t => Option.casesOn (motive := fun _ => Option (List α)) (ih t) none (fun r => some (v :: r)))) vs l
noncomputable def putAt {α : Type} (o : Nat) (vs : List α) (l : List α) : Option (List α) :=
  Nat.rec (motive := fun _ => List α → Option (List α)) (fun l => putN vs l)
    (fun _ ih l => List.casesOn (motive := fun _ => Option (List α)) l none (fun a t => Option.casesOn (motive := fun _ => Option (List α)) (ih t) none (fun r => some (a :: r)))) o l
noncomputable def rep {α : Type} (n : Nat) (z : List α) : List α := Nat.rec (motive := fun _ => List α) [] (fun _ ih => app z ih) n
noncomputable def allL {α : Type} (f : α → Bool) (a : List α) : Bool := List.rec (motive := fun _ => Bool) true (fun x _ ih => cond (f x) ih false) a
noncomputable def filterL {α : Type} (f : α → Bool) (a : List α) : List α := List.rec (motive := fun _ => List α) [] (fun x _ ih => cond (f x) (x :: ih) ih) a
noncomputable def beqL {α : Type} (f : α → α → Bool) (a : List α) : List α → Bool :=
  List.rec (motive := fun _ => List α → Bool) (fun b => List.casesOn (motive := fun _ => Bool) b true (fun _ _ => false))
    (fun x _ ih b => List.casesOn (motive := fun _ => Bool) b false (fun y t => cond (f x y) (ih t) false)) a

/-! ### values -/
/-- what is known of a slice's capacity: the number; or that it goes to the end of its block, of elements of so many cells -/
inductive Cp where | ex (k : Nat) | fr (es : Nat)
  deriving DecidableEq, Inhabited

inductive V where
  | int (k : IntKind) (n : Int)
  | bool (b : Bool)
  | str (s : List Nat)
  | nil
  | ptr (b : P) (o : Nat)
  | nilsl
  | sl (b : P) (o n : Nat) (c : Cp)
  | nilmap
  | map (b : P)
  | fn (f : P) (first captured : List V)
  | nilfn
  | iface (t : TypeId) (v : V)
  | niliface
  | agg (cs : List V)
  | tup (vs : List V)
  | undef        -- some value of one cell
  | junk         -- whatever value
  deriving Inhabited

/-- its cells -/
def V.flat1 : V → Option (List V)
  | .agg cs => some cs
  | .tup _ => none
  | .junk => none
  | v => some [v]
end Go.Am
namespace Go.Am
/-! ### memory -/
inductive Blk where
  | cells (cs : List V) (ro : Bool)
  | dead (cs : List V)     -- gone; or not there yet, with what it will hold
  | map (es : List (V × V × Nat)) (clock : Nat)
  | siter (s : List Nat) (pos : Nat)
  | miter (m : Option P) (since : Nat) (seen : List Nat) (stepped : Nat)
  deriving Inhabited

structure H where
  heap : T Blk
  next : P

/-- stuck; done; or one of n goes on (which, is left open) -/
inductive R where
  | no
  | ok (v : V) (h : H)
  | ask (n : Nat) (k : Nat → R)


noncomputable def onSome {α : Type} (o : Option α) (f : α → R) : R := Option.casesOn (motive := fun _ => R) o .no f
noncomputable def H.get (h : H) (b : P) : Option Blk := h.heap.get b
noncomputable def H.put (h : H) (b : P) (x : Blk) : H := H.casesOn (motive := fun _ => H) h (fun heap next => ⟨heap.set b x, next⟩)
noncomputable def H.alloc (h : H) (x : Blk) : H := H.casesOn (motive := fun _ => H) h (fun heap next => ⟨heap.set next x, next.succ⟩)
noncomputable def Blk.row (b : Blk) : Option (List V) := Blk.casesOn (motive := fun _ => Option (List V)) b (fun cs _ => some cs) (fun _ => none) (fun _ _ => none) (fun _ _ => none) (fun _ _ _ _ => none)
noncomputable def Blk.wrow (b : Blk) : Option (List V) := Blk.casesOn (motive := fun _ => Option (List V)) b (fun cs ro => Bool.casesOn (motive := fun _ => Option (List V)) ro (some cs) none) (fun _ => none) (fun _ _ => none) (fun _ _ => none) (fun _ _ _ _ => none)
noncomputable def H.cells (h : H) (b : P) : Option (List V) := Option.casesOn (motive := fun _ => Option (List V)) (h.get b) none Blk.row
noncomputable def H.wcells (h : H) (b : P) : Option (List V) := Option.casesOn (motive := fun _ => Option (List V)) (h.get b) none Blk.wrow
noncomputable def H.read (h : H) (b : P) (o n : Nat) : Option (List V) := Option.casesOn (motive := fun _ => Option (List V)) (h.cells b) none (fun cs => takeN n (dropN o cs))
noncomputable def H.write (h : H) (b : P) (o : Nat) (vs : List V) : Option H := Option.casesOn (motive := fun _ => Option H) (h.wcells b) none
  (fun cs => Option.casesOn (motive := fun _ => Option H) (putAt o vs cs) none (fun cs => some (h.put b (.cells cs false))))
noncomputable def onInt (v : V) (f : IntKind → Int → R) : R := V.casesOn (motive_1 := fun _ => R) v f (fun _ => .no) (fun _ => .no) .no (fun _ _ => .no) .no (fun _ _ _ _ => .no) .no (fun _ => .no) (fun _ _ _ => .no) .no (fun _ _ => .no) .no (fun _ => .no) (fun _ => .no) .no .no
noncomputable def onBool (v : V) (f : Bool → R) : R := V.casesOn (motive_1 := fun _ => R) v (fun _ _ => .no) f (fun _ => .no) .no (fun _ _ => .no) .no (fun _ _ _ _ => .no) .no (fun _ => .no) (fun _ _ _ => .no) .no (fun _ _ => .no) .no (fun _ => .no) (fun _ => .no) .no .no
noncomputable def onStr (v : V) (f : List Nat → R) : R := V.casesOn (motive_1 := fun _ => R) v (fun _ _ => .no) (fun _ => .no) f .no (fun _ _ => .no) .no (fun _ _ _ _ => .no) .no (fun _ => .no) (fun _ _ _ => .no) .no (fun _ _ => .no) .no (fun _ => .no) (fun _ => .no) .no .no
noncomputable def onPtr (v : V) (f : P → Nat → R) : R := V.casesOn (motive_1 := fun _ => R) v (fun _ _ => .no) (fun _ => .no) (fun _ => .no) .no f .no (fun _ _ _ _ => .no) .no (fun _ => .no) (fun _ _ _ => .no) .no (fun _ _ => .no) .no (fun _ => .no) (fun _ => .no) .no .no
noncomputable def onAgg (v : V) (f : List V → R) : R := V.casesOn (motive_1 := fun _ => R) v (fun _ _ => .no) (fun _ => .no) (fun _ => .no) .no (fun _ _ => .no) .no (fun _ _ _ _ => .no) .no (fun _ => .no) (fun _ _ _ => .no) .no (fun _ _ => .no) .no f (fun _ => .no) .no .no
noncomputable def onTup (v : V) (f : List V → R) : R := V.casesOn (motive_1 := fun _ => R) v (fun _ _ => .no) (fun _ => .no) (fun _ => .no) .no (fun _ _ => .no) .no (fun _ _ _ _ => .no) .no (fun _ => .no) (fun _ _ _ => .no) .no (fun _ _ => .no) .no (fun _ => .no) f .no .no
noncomputable def onMap (v : V) (f : P → R) : R := V.casesOn (motive_1 := fun _ => R) v (fun _ _ => .no) (fun _ => .no) (fun _ => .no) .no (fun _ _ => .no) .no (fun _ _ _ _ => .no) .no f (fun _ _ _ => .no) .no (fun _ _ => .no) .no (fun _ => .no) (fun _ => .no) .no .no
noncomputable def onSl (v : V) (g : R) (f : P → Nat → Nat → Cp → R) : R := V.casesOn (motive_1 := fun _ => R) v (fun _ _ => .no) (fun _ => .no) (fun _ => .no) .no (fun _ _ => .no) g f .no (fun _ => .no) (fun _ _ _ => .no) .no (fun _ _ => .no) .no (fun _ => .no) (fun _ => .no) .no .no
noncomputable def onMapN (v : V) (g : R) (f : P → R) : R := V.casesOn (motive_1 := fun _ => R) v (fun _ _ => .no) (fun _ => .no) (fun _ => .no) .no (fun _ _ => .no) .no (fun _ _ _ _ => .no) g f (fun _ _ _ => .no) .no (fun _ _ => .no) .no (fun _ => .no) (fun _ => .no) .no .no
noncomputable def onNck (v : V) (f : P → Nat → R) (g : P → List V → List V → R) : R := V.casesOn (motive_1 := fun _ => R) v (fun _ _ => .no) (fun _ => .no) (fun _ => .no) .no f .no (fun _ _ _ _ => .no) .no (fun _ => .no) g .no (fun _ _ => .no) .no (fun _ => .no) (fun _ => .no) .no .no
noncomputable def onIf (v : V) (g : R) (f : TypeId → V → R) : R := V.casesOn (motive_1 := fun _ => R) v (fun _ _ => .no) (fun _ => .no) (fun _ => .no) .no (fun _ _ => .no) .no (fun _ _ _ _ => .no) .no (fun _ => .no) (fun _ _ _ => .no) .no f g (fun _ => .no) (fun _ => .no) .no .no
noncomputable def onRng (v : V) (f : List Nat → R) (g : R) (k : P → R) : R := V.casesOn (motive_1 := fun _ => R) v (fun _ _ => .no) (fun _ => .no) f .no (fun _ _ => .no) .no (fun _ _ _ _ => .no) g k (fun _ _ _ => .no) .no (fun _ _ => .no) .no (fun _ => .no) (fun _ => .no) .no .no
noncomputable def onLen (v : V) (f : List Nat → R) (g : R) (k : P → Nat → Nat → Cp → R) (l : R) (m : P → R) : R := V.casesOn (motive_1 := fun _ => R) v (fun _ _ => .no) (fun _ => .no) f .no (fun _ _ => .no) g k l m (fun _ _ _ => .no) .no (fun _ _ => .no) .no (fun _ => .no) (fun _ => .no) .no .no
noncomputable def onNew (v : V) (f : List Nat → R) (g : R) (k : P → Nat → Nat → Cp → R) : R := V.casesOn (motive_1 := fun _ => R) v (fun _ _ => .no) (fun _ => .no) f .no (fun _ _ => .no) g k .no (fun _ => .no) (fun _ _ _ => .no) .no (fun _ _ => .no) .no (fun _ => .no) (fun _ => .no) .no .no
noncomputable def onClr (v : V) (g : R) (k : P → Nat → Nat → Cp → R) (m : P → R) : R := V.casesOn (motive_1 := fun _ => R) v (fun _ _ => .no) (fun _ => .no) (fun _ => .no) .no (fun _ _ => .no) g k g m (fun _ _ _ => .no) .no (fun _ _ => .no) .no (fun _ => .no) (fun _ => .no) .no .no
noncomputable def onPN (v : V) (g : R) (f : P → Nat → R) : R := V.casesOn (motive_1 := fun _ => R) v (fun _ _ => .no) (fun _ => .no) (fun _ => .no) g f .no (fun _ _ _ _ => .no) .no (fun _ => .no) (fun _ _ _ => .no) .no (fun _ _ => .no) .no (fun _ => .no) (fun _ => .no) .no .no
noncomputable def onFn (v : V) (f : P → List V → List V → R) : R := V.casesOn (motive_1 := fun _ => R) v (fun _ _ => .no) (fun _ => .no) (fun _ => .no) .no (fun _ _ => .no) .no (fun _ _ _ _ => .no) .no (fun _ => .no) f .no (fun _ _ => .no) .no (fun _ => .no) (fun _ => .no) .no .no
/-! ### numbers -/
def inKind (k : IntKind) (n : Int) : Bool :=
  match k, n with
  | .i64, .ofNat m => Nat.blt m 9223372036854775808
  | .i64, .negSucc m => Nat.blt m 9223372036854775808
  | .u8, .ofNat m => Nat.blt m 256
  | .u16, .ofNat m => Nat.blt m 65536
  | .u32, .ofNat m => Nat.blt m 4294967296
  | .u64, .ofNat m => Nat.blt m 18446744073709551616
  | .i32, .ofNat m => Nat.blt m 2147483648
  | .i32, .negSucc m => Nat.blt m 2147483648
  | _, _ => false
def pow2 : IntKind → Nat | .i8 | .u8 => 256 | .i16 | .u16 => 65536 | .i32 | .u32 => 4294967296 | .i64 | .u64 => 18446744073709551616
def half2 : IntKind → Nat | .i8 | .u8 => 128 | .i16 | .u16 => 32768 | .i32 | .u32 => 2147483648 | .i64 | .u64 => 9223372036854775808
/-- the wrap by literal powers -/
def wrapS (k : IntKind) (n : Int) : Int :=
  let m := (n.emod (Int.ofNat (pow2 k))).toNat
  cond (k.signed && Nat.ble (half2 k) m) (Int.subNatNat m (pow2 k)) (Int.ofNat m)
def wrapQ (k : IntKind) (n : Int) : Int := cond (inKind k n) n (wrapS k n)

def intEq : Int → Int → Bool
  | .ofNat a, .ofNat b => Nat.beq a b
  | .negSucc a, .negSucc b => Nat.beq a b
  | _, _ => false
def intLe : Int → Int → Bool
  | .ofNat a, .ofNat b => Nat.ble a b
  | .negSucc _, .ofNat _ => true
  | .ofNat _, .negSucc _ => false
  | .negSucc a, .negSucc b => Nat.ble b a
def kEq : IntKind → IntKind → Bool
  | .i8, .i8 | .i16, .i16 | .i32, .i32 | .i64, .i64 | .u8, .u8 | .u16, .u16 | .u32, .u32 | .u64, .u64 => true
  | _, _ => false

def bitsNat : Nat → Nat → Nat → Nat     -- 0 and, 1 or, 2 xor, 3 and
  | 0, a, b => Nat.land a b
  | 1, a, b => Nat.lor a b
  | _, a, b => Nat.xor a b

/-! ### operands and operations -/
inductive X where
  | loc (i : I)
  | slot (p : P)
  | con (v : V)
  deriving Inhabited

inductive SK where | int | bool | str
  deriving DecidableEq, Inhabited
inductive KyK where | sc (s : SK) | flat (ks : List SK)
  deriving DecidableEq, Inhabited
inductive EqK where | bool | ptr | iface (cn : Bool) (tys : List (Nat × Bool)) | flat (ks : List SK) | slice | map | func
  deriving DecidableEq, Inhabited
inductive AOp where | add | sub | mul | quo | rem
inductive COp where | eq | ne | lt | le | gt | ge
inductive BOp where | and | or | xor | andNot

abbrev St := List V
abbrev Fr := T V

noncomputable def X.ev (x : X) (st : St) (fr : Fr) : V :=
  X.casesOn (motive := fun _ => V) x (fun i => nthI .junk i st) (fun p => Option.casesOn (motive := fun _ => V) (fr.get p) .junk (fun v => v)) (fun v => v)

inductive C where
  | mv (x : X)
  | pick (c a b : X)
  | alloc (z : List V)
  | box (x : X)
  | build (z : List V) (ps : List (Nat × Nat × X))
  | bslice (es n : Nat) (z : List V) (ps : List (Nat × Nat × X))
  | ld (x : X)
  | ldn (n : Nat) (x : X)
  | st (n : Nat) (a x : X)
  | nck (x : X)
  | ar (op : AOp) (k : IntKind) (x y : X)
  | cmp (op : COp) (x y : X)
  | bits (op : BOp) (k : IntKind) (x y : X)
  | shl (k : IntKind) (x y : X)
  | shr (k : IntKind) (x y : X)
  | sadd (x y : X)
  | scmp (op : COp) (x y : X)
  | eqv (neg : Bool) (k : EqK) (x y : X)
  | neg (k : IntKind) (x : X)
  | not (x : X)
  | xorU (k : IntKind) (x : X)
  | i2i (k : IntKind) (x : X)
  | i2s (x : X)
  | s2s (x : X)
  | s2b (x : X)
  | b2s (x : X)
  | mkif (t : Nat) (x : X)
  | mkfn (f : P) (a c : List X)
  | mkmap
  | mksl (es bytes : Nat) (z : List V) (l c : X)
  | sls (x : X) (lo hi : Option X)
  | slc (es : Nat) (x : X) (lo hi mx : Option X)
  | slarr (es n : Nat) (x : X) (lo hi mx : Option X)
  | fa (off : Nat) (x : X)
  | fld (off : Nat) (x : X)
  | fldn (off n : Nat) (x : X)
  | ixa (es : Nat) (x i : X)
  | ixarr (es n : Nat) (x i : X)
  | ixs (x i : X)
  | ixag (es n : Nat) (agg : Bool) (x i : X)
  | lk (kk : KyK) (ok : Bool) (z : V) (m k : X)
  | mset (kk : KyK) (m k x : X)
  | ment (kk : KyK) (z : V) (m k : X)
  | est (m s x : X)
  | rng (x : X)
  | nxt (isStr : Bool) (x : X)
  | ent (x : X)
  | asr (t : Nat) (ok : Bool) (z : V) (x : X)
  | ext (i : Nat) (x : X)
  | lenc (n : Nat)
  | lenS (x : X)
  | lenL (x : X)
  | lenM (x : X)
  | appe (es bytes : Nat) (s x : X)
  | cpy (es : Nat) (d x : X)
  | mx (xs : List X)
  | mn (xs : List X)
  | cap (x : X)
  | del (kk : KyK) (m k : X)
  | clr (z : List V) (x : X)
  | clm (x : X)
  | usd (x : X)
  | ustr (p n : X)


/-! ### what they do -/
noncomputable def cMv (x : X) (st : St) (fr : Fr) (h : H) : R := .ok (x.ev st fr) h
noncomputable def cPick (c a b : X) (st : St) (fr : Fr) (h : H) : R := onBool (c.ev st fr) (fun t => .ok (cond t (a.ev st fr) (b.ev st fr)) h)
noncomputable def cAlloc (z : List V) (_st : St) (_fr : Fr) (h : H) : R := .ok (.ptr h.next 0) (h.alloc (.cells z false))
noncomputable def cBox (x : X) (st : St) (fr : Fr) (h : H) : R := onSome (x.ev st fr).flat1 (fun cs => .ok (.ptr h.next 0) (h.alloc (.cells cs false)))
noncomputable def fill1 (size off : Nat) (vs cs : List V) : Option (List V) := cond (Nat.beq (Am.len vs) size) (putAt off vs cs) none
noncomputable def fill (ps : List (Nat × Nat × X)) (st : St) (fr : Fr) (cs : List V) : Option (List V) :=
  List.rec (motive := fun _ => List V → Option (List V)) (fun cs => some cs)
    (fun p _ ih cs => Option.casesOn (motive := fun _ => Option (List V)) (p.2.2.ev st fr).flat1 none (fun vs => Option.casesOn (motive := fun _ => Option (List V)) (fill1 p.2.1 p.1 vs cs) none ih)) ps cs
noncomputable def cBuild (z : List V) (ps : List (Nat × Nat × X)) (st : St) (fr : Fr) (h : H) : R := onSome (fill ps st fr z) (fun cs => .ok (.agg cs) h)
noncomputable def cBslice (_es n : Nat) (z : List V) (ps : List (Nat × Nat × X)) (st : St) (fr : Fr) (h : H) : R :=
  onSome (fill ps st fr z) (fun cs => .ok (.sl h.next 0 n (.ex n)) (h.alloc (.cells cs false)))
noncomputable def cLd (x : X) (st : St) (fr : Fr) (h : H) : R := onPtr (x.ev st fr) (fun b o => onSome (h.cells b) (fun cs => onSome (nth cs o) (fun v => .ok v h)))
noncomputable def cLdn (n : Nat) (x : X) (st : St) (fr : Fr) (h : H) : R := onPtr (x.ev st fr) (fun b o => onSome (h.read b o n) (fun cs => .ok (.agg cs) h))
noncomputable def cSt (n : Nat) (a x : X) (st : St) (fr : Fr) (h : H) : R := onPtr (a.ev st fr) (fun b o => onSome (x.ev st fr).flat1 (fun vs =>
  cond (Nat.beq (Am.len vs) n) (onSome (h.write b o vs) (fun h => .ok (.tup []) h)) .no))
noncomputable def cNck (x : X) (st : St) (fr : Fr) (h : H) : R := onNck (x.ev st fr) (fun b o => .ok (.ptr b o) h) (fun f a c => .ok (.fn f a c) h)
noncomputable def arI (op : AOp) (k : IntKind) (a b : Int) (h : H) : R := AOp.casesOn (motive := fun _ => R) op
  (.ok (.int k (wrapQ k (Int.add a b))) h) (.ok (.int k (wrapQ k (Int.add a (Int.neg b)))) h) (.ok (.int k (wrapQ k (Int.mul a b))) h)
  (cond (intEq b 0) .no (.ok (.int k (wrapQ k (Int.tdiv a b))) h)) (cond (intEq b 0) .no (.ok (.int k (Int.tmod a b)) h))
noncomputable def cAr (op : AOp) (k : IntKind) (x y : X) (st : St) (fr : Fr) (h : H) : R := onInt (x.ev st fr) (fun k1 a => onInt (y.ev st fr) (fun k2 b =>
  cond (kEq k1 k) (cond (kEq k2 k) (arI op k a b h) .no) .no))
noncomputable def cmpI (op : COp) (a b : Int) : Bool := COp.casesOn (motive := fun _ => Bool) op (intEq a b) (!(intEq a b)) (!(intLe b a)) (intLe a b) (!(intLe a b)) (intLe b a)
noncomputable def cCmp (op : COp) (x y : X) (st : St) (fr : Fr) (h : H) : R := onInt (x.ev st fr) (fun k1 a => onInt (y.ev st fr) (fun k2 b =>
  cond (kEq k1 k2) (.ok (.bool (cmpI op a b)) h) .no))
noncomputable def modN (k : IntKind) (a : Int) : Nat := (Int.emod a (Int.ofNat (pow2 k))).toNat
noncomputable def bitsI (op : BOp) (k : IntKind) (a b : Nat) : Nat := BOp.casesOn (motive := fun _ => Nat) op (Nat.land a b) (Nat.lor a b) (Nat.xor a b) (Nat.land a (Nat.sub (Nat.sub (pow2 k) 1) b))
noncomputable def cBits (op : BOp) (k : IntKind) (x y : X) (st : St) (fr : Fr) (h : H) : R := onInt (x.ev st fr) (fun k1 a => onInt (y.ev st fr) (fun k2 b =>
  cond (kEq k1 k) (cond (kEq k2 k) (.ok (.int k (wrapQ k (Int.ofNat (bitsI op k (modN k a) (modN k b))))) h) .no) .no))
noncomputable def shiftN (k : IntKind) (b : Int) : Nat := Nat.pow 2 (cond (Nat.ble b.toNat k.bits) b.toNat k.bits)
noncomputable def cShl (k : IntKind) (x y : X) (st : St) (fr : Fr) (h : H) : R := onInt (x.ev st fr) (fun k1 a => onInt (y.ev st fr) (fun _ b =>
  cond (kEq k1 k) (cond (intLe 0 b) (.ok (.int k (wrapQ k (Int.mul a (Int.ofNat (shiftN k b))))) h) .no) .no))
noncomputable def cShr (k : IntKind) (x y : X) (st : St) (fr : Fr) (h : H) : R := onInt (x.ev st fr) (fun k1 a => onInt (y.ev st fr) (fun _ b =>
  cond (kEq k1 k) (cond (intLe 0 b) (.ok (.int k (Int.fdiv a (Int.ofNat (shiftN k b)))) h) .no) .no))
noncomputable def bytesLt (a : List Nat) : List Nat → Bool :=
  List.rec (motive := fun _ => List Nat → Bool) (fun b => List.casesOn (motive := fun _ => Bool) b false (fun _ _ => true))
    (fun x _ ih b => List.casesOn (motive := fun _ => Bool) b false (fun y t => cond (Nat.blt x y) true (cond (Nat.beq x y) (ih t) false))) a
noncomputable def cSadd (x y : X) (st : St) (fr : Fr) (h : H) : R := onStr (x.ev st fr) (fun a => onStr (y.ev st fr) (fun b =>
  cond (Nat.ble (Nat.add (Am.len a) (Am.len b)) 9223372036854775807) (.ok (.str (app a b)) h) .no))
noncomputable def cmpS (op : COp) (a b : List Nat) : Bool := COp.casesOn (motive := fun _ => Bool) op (beqL Nat.beq a b) (!(beqL Nat.beq a b)) (bytesLt a b) (!(bytesLt b a)) (bytesLt b a) (!(bytesLt a b))
noncomputable def cScmp (op : COp) (x y : X) (st : St) (fr : Fr) (h : H) : R := onStr (x.ev st fr) (fun a => onStr (y.ev st fr) (fun b => .ok (.bool (cmpS op a b)) h))
noncomputable def skEq (s : SK) (x y : V) : Option Bool := match s, x, y with
  | .int, .int k a, .int k' b => cond (kEq k k') (some (intEq a b)) none
  | .bool, .bool a, .bool b => some (Bool.casesOn (motive := fun _ => Bool) a (!b) b)
  | .str, .str a, .str b => some (beqL Nat.beq a b)
  | _, _, _ => none
noncomputable def flatEq (ks : List SK) : List V → List V → Option Bool :=
  List.rec (motive := fun _ => List V → List V → Option Bool)
    (fun xs ys => match xs, ys with | [], [] => some true | _, _ => none)
    (fun s _ ih xs ys => match xs, ys with
      | x :: xs, y :: ys => Option.casesOn (motive := fun _ => Option Bool) (skEq s x y) none (fun b => cond b (ih xs ys) (some false))
      | _, _ => none) ks
noncomputable def lookT (t : Nat) (tys : List (Nat × Bool)) : Option Bool := List.rec (motive := fun _ => Option Bool) none (fun p _ ih => cond (Nat.beq p.1 t) (some p.2) ih) tys
noncomputable def eqPtr (b : P) (o : Nat) (b' : P) (o' : Nat) : Option Bool := cond (b.beq b') (some (Nat.beq o o')) none
noncomputable def eqDyn (isInt : Bool) (v v' : V) : Option Bool := match isInt, v, v' with
  | true, .int k a, .int k' b => cond (kEq k k') (some (intEq a b)) none
  | false, .ptr b o, .ptr b' o' => eqPtr b o b' o'
  | _, _, _ => none
noncomputable def eqF (k : EqK) (x y : V) : Option Bool :=
  match k, x, y with
  | .bool, .bool a, .bool b => some (Bool.casesOn (motive := fun _ => Bool) a (!b) b)
  | .ptr, .nil, .nil => some true
  | .ptr, .nil, .ptr _ _ => some false
  | .ptr, .ptr _ _, .nil => some false
  | .ptr, .ptr b o, .ptr b' o' => eqPtr b o b' o'
  | .iface cn _, .niliface, .niliface => cond cn (some true) none
  | .iface _ _, .niliface, .iface _ _ => some false
  | .iface _ _, .iface _ _, .niliface => some false
  | .iface _ tys, .iface t v, .iface t' v' => cond (Nat.beq t t') (Option.casesOn (motive := fun _ => Option Bool) (lookT t tys) none (fun i => eqDyn i v v')) (some false)
  | .flat ks, .agg xs, .agg ys => flatEq ks xs ys
  | .slice, .nilsl, .nilsl => some true
  | .slice, .nilsl, .sl .. => some false
  | .slice, .sl .., .nilsl => some false
  | .map, .nilmap, .nilmap => some true
  | .map, .nilmap, .map _ => some false
  | .map, .map _, .nilmap => some false
  | .func, .nilfn, .nilfn => some true
  | .func, .nilfn, .fn .. => some false
  | .func, .fn .., .nilfn => some false
  | _, _, _ => none
noncomputable def cEqv (neg : Bool) (k : EqK) (x y : X) (st : St) (fr : Fr) (h : H) : R := onSome (eqF k (x.ev st fr) (y.ev st fr)) (fun b => .ok (.bool (cond neg (!b) b)) h)
noncomputable def cNeg (k : IntKind) (x : X) (st : St) (fr : Fr) (h : H) : R := onInt (x.ev st fr) (fun k1 n => cond (kEq k1 k) (.ok (.int k (wrapQ k (Int.neg n))) h) .no)
noncomputable def cNot (x : X) (st : St) (fr : Fr) (h : H) : R := onBool (x.ev st fr) (fun b => .ok (.bool (!b)) h)
noncomputable def cXorU (k : IntKind) (x : X) (st : St) (fr : Fr) (h : H) : R := onInt (x.ev st fr) (fun k1 n => cond (kEq k1 k) (.ok (.int k (wrapQ k (Int.ofNat (Nat.sub (Nat.sub (pow2 k) 1) (modN k n))))) h) .no)
noncomputable def cI2i (k : IntKind) (x : X) (st : St) (fr : Fr) (h : H) : R := onInt (x.ev st fr) (fun _ n => .ok (.int k (wrapQ k n)) h)
noncomputable def utf8 (n : Int) : List Nat := (Utf8.encode n).data.toList.map (·.toNat)
noncomputable def cI2s (x : X) (st : St) (fr : Fr) (h : H) : R := onInt (x.ev st fr) (fun _ n => .ok (.str (utf8 n)) h)
noncomputable def bytesV (l : List Nat) : List V := mapL (fun n => V.int .u8 (Int.ofNat n)) l
noncomputable def cS2s (x : X) (st : St) (fr : Fr) (h : H) : R := onStr (x.ev st fr) (fun l => .ok (.str l) h)
noncomputable def cS2b (x : X) (st : St) (fr : Fr) (h : H) : R := onStr (x.ev st fr) (fun l => cond (Nat.ble (Am.len l) 9223372036854775807) (.ok (.sl h.next 0 (Am.len l) (.fr 1)) (h.alloc (.cells (bytesV l) false))) .no)
def V.byte : V → Option Nat
  | .int .u8 (.ofNat m) => cond (Nat.blt m 256) (some m) none
  | _ => none
noncomputable def toBytes (l : List V) : Option (List Nat) :=
  List.rec (motive := fun _ => Option (List Nat)) (some []) (fun v _ ih => Option.casesOn (motive := fun _ => Option (List Nat)) v.byte none
    (fun m => Option.casesOn (motive := fun _ => Option (List Nat)) ih none (fun r => some (m :: r)))) l
noncomputable def cB2s (x : X) (st : St) (fr : Fr) (h : H) : R := onSl (x.ev st fr) (.ok (.str []) h) (fun b o n _ => onSome (h.read b o n) (fun cs => onSome (toBytes cs) (fun l => .ok (.str l) h)))
noncomputable def cMkif (t : Nat) (x : X) (st : St) (fr : Fr) (h : H) : R := .ok (.iface t (x.ev st fr)) h
noncomputable def evs (xs : List X) (st : St) (fr : Fr) : List V := mapL (fun x => x.ev st fr) xs
noncomputable def cMkfn (f : P) (a c : List X) (st : St) (fr : Fr) (h : H) : R := .ok (.fn f (evs a st fr) (evs c st fr)) h
noncomputable def cMkmap (_st : St) (_fr : Fr) (h : H) : R := .ok (.map h.next) (h.alloc (.map [] 0))
def V.nat : V → Option Nat
  | .int _ (.ofNat n) => some n
  | _ => none
noncomputable def cMksl (_es bytes : Nat) (z : List V) (l c : X) (st : St) (fr : Fr) (h : H) : R := onSome (l.ev st fr).nat (fun l => onSome (c.ev st fr).nat (fun c =>
  cond (Nat.ble l c) (cond (Nat.ble (Nat.mul c bytes) 140737488355328) (cond (Nat.ble c 9223372036854775807) (.ok (.sl h.next 0 l (.ex c)) (h.alloc (.cells (rep c z) false))) .no) .no) .no))
noncomputable def bnd (x : Option X) (dflt y : Nat) (st : St) (fr : Fr) : Option Nat := Option.casesOn (motive := fun _ => Option Nat) x (some dflt)
  (fun x => Option.casesOn (motive := fun _ => Option Nat) (x.ev st fr).nat none (fun i => cond (Nat.ble i y) (some i) none))
noncomputable def cSls (x : X) (lo hi : Option X) (st : St) (fr : Fr) (h : H) : R := onStr (x.ev st fr) (fun s => onSome (bnd hi (Am.len s) (Am.len s) st fr) (fun hh =>
  onSome (bnd lo 0 hh st fr) (fun l => onSome (takeN (Nat.sub hh l) (dropN l s)) (fun r => .ok (.str r) h))))
noncomputable def roomOf (es : Nat) (b : P) (o : Nat) (c : Cp) (h : H) : Option Nat := Cp.casesOn (motive := fun _ => Option Nat) c some
  (fun es' => cond (Nat.beq es es') (Option.casesOn (motive := fun _ => Option Nat) (h.cells b) none (fun cs => some (Nat.div (Nat.sub (Am.len cs) o) es))) none)
noncomputable def capAft (mx : Option X) (c : Cp) (m l : Nat) : Cp := Option.casesOn (motive := fun _ => Cp) mx (Cp.casesOn (motive := fun _ => Cp) c (fun c => .ex (Nat.sub c l)) .fr) (fun _ => .ex (Nat.sub m l))
noncomputable def sliceOf (es : Nat) (b : P) (o n : Nat) (c : Cp) (lo hi mx : Option X) (st : St) (fr : Fr) (h : H) : R :=
  onSome (roomOf es b o c h) (fun room => onSome (bnd mx room room st fr) (fun m => onSome (bnd hi n m st fr) (fun hh => onSome (bnd lo 0 hh st fr) (fun l =>
    .ok (.sl b (Nat.add o (Nat.mul l es)) (Nat.sub hh l) (capAft mx c m l)) h))))
noncomputable def cSlc (es : Nat) (x : X) (lo hi mx : Option X) (st : St) (fr : Fr) (h : H) : R := onSl (x.ev st fr)
  (onSome (bnd mx 0 0 st fr) (fun _ => onSome (bnd hi 0 0 st fr) (fun _ => onSome (bnd lo 0 0 st fr) (fun _ => .ok .nilsl h))))
  (fun b o n c => sliceOf es b o n c lo hi mx st fr h)
noncomputable def cSlarr (es n : Nat) (x : X) (lo hi mx : Option X) (st : St) (fr : Fr) (h : H) : R := onPtr (x.ev st fr) (fun b o => sliceOf es b o n (.ex n) lo hi mx st fr h)
noncomputable def cFa (off : Nat) (x : X) (st : St) (fr : Fr) (h : H) : R := onPtr (x.ev st fr) (fun b o => .ok (.ptr b (Nat.add o off)) h)
noncomputable def cFld (off : Nat) (x : X) (st : St) (fr : Fr) (h : H) : R := onAgg (x.ev st fr) (fun cs => onSome (nth cs off) (fun v => .ok v h))
noncomputable def cFldn (off n : Nat) (x : X) (st : St) (fr : Fr) (h : H) : R := onAgg (x.ev st fr) (fun cs => onSome (takeN n (dropN off cs)) (fun r => .ok (.agg r) h))
noncomputable def cIxa (es : Nat) (x i : X) (st : St) (fr : Fr) (h : H) : R := onSl (x.ev st fr) .no (fun b o n _ => onSome (i.ev st fr).nat (fun i => cond (Nat.blt i n) (.ok (.ptr b (Nat.add o (Nat.mul i es))) h) .no))
noncomputable def cIxarr (es n : Nat) (x i : X) (st : St) (fr : Fr) (h : H) : R := onPtr (x.ev st fr) (fun b o => onSome (i.ev st fr).nat (fun i => cond (Nat.blt i n) (.ok (.ptr b (Nat.add o (Nat.mul i es))) h) .no))
noncomputable def cIxs (x i : X) (st : St) (fr : Fr) (h : H) : R := onStr (x.ev st fr) (fun s => onSome (i.ev st fr).nat (fun i => onSome (nth s i) (fun c => .ok (.int .u8 (Int.ofNat c)) h)))
noncomputable def cIxag (es n : Nat) (agg : Bool) (x i : X) (st : St) (fr : Fr) (h : H) : R := onAgg (x.ev st fr) (fun cs => onSome (i.ev st fr).nat (fun i => cond (Nat.blt i n)
  (cond agg (onSome (takeN es (dropN (Nat.mul i es) cs)) (fun r => .ok (.agg r) h)) (onSome (nth cs (Nat.mul i es)) (fun v => .ok v h))) .no))
/-- keys: numbers, strings, bools, and structs of them -/
noncomputable def keyEq (kk : KyK) (x y : V) : Option Bool := match kk, x, y with
  | .sc s, x, y => skEq s x y
  | .flat ks, .agg xs, .agg ys => flatEq ks xs ys
  | _, _, _ => none
noncomputable def skOk (s : SK) (x : V) : Bool := match s, x with
  | .int, .int .. => true
  | .bool, .bool _ => true
  | .str, .str _ => true
  | _, _ => false
noncomputable def flatOk (ks : List SK) : List V → Bool :=
  List.rec (motive := fun _ => List V → Bool) (fun xs => match xs with | [] => true | _ => false) (fun s _ ih xs => match xs with | x :: xs => cond (skOk s x) (ih xs) false | [] => false) ks
noncomputable def keyOk (kk : KyK) (x : V) : Bool := match kk, x with
  | .sc s, x => skOk s x
  | .flat ks, .agg xs => flatOk ks xs
  | _, _ => false
noncomputable def findK (kk : KyK) (k : V) (es : List (V × V × Nat)) : Option (Option (Nat × V × Nat)) :=
  List.rec (motive := fun _ => Nat → Option (Option (Nat × V × Nat))) (fun _ => some none)
    (fun e _ ih i => Option.casesOn (motive := fun _ => Option (Option (Nat × V × Nat))) (keyEq kk k e.1) none (fun b => cond b (some (some (i, e.2))) (ih (Nat.succ i)))) es 0
noncomputable def setVal (v : V) (es : List (V × V × Nat)) (i : Nat) : List (V × V × Nat) :=
  List.rec (motive := fun _ => Nat → List (V × V × Nat)) (fun _ => []) (fun e t ih i => Nat.casesOn (motive := fun _ => List (V × V × Nat)) i ((e.1, v, e.2.2) :: t) (fun i => e :: ih i)) es i
noncomputable def dropAt (es : List (V × V × Nat)) (i : Nat) : List (V × V × Nat) :=
  List.rec (motive := fun _ => Nat → List (V × V × Nat)) (fun _ => []) (fun e t ih i => Nat.casesOn (motive := fun _ => List (V × V × Nat)) i t (fun i => e :: ih i)) es i
noncomputable def onMapB (o : Option Blk) (f : List (V × V × Nat) → Nat → R) : R := onSome o (fun b => Blk.casesOn (motive := fun _ => R) b (fun _ _ => .no) (fun _ => .no) f (fun _ _ => .no) (fun _ _ _ _ => .no))
noncomputable def cMset (kk : KyK) (m k x : X) (st : St) (fr : Fr) (h : H) : R := onMap (m.ev st fr) (fun r => cond (keyOk kk (k.ev st fr)) (onMapB (h.get r) (fun es clock =>
  onSome (findK kk (k.ev st fr) es) (fun q => Option.casesOn (motive := fun _ => R) q
    (.ok (.tup []) (h.put r (.map (app es [(k.ev st fr, x.ev st fr, clock)]) (Nat.succ clock))))
    (fun e => .ok (.tup []) (h.put r (.map (setVal (x.ev st fr) es e.1) clock)))))) .no)
noncomputable def lkRes (ok : Bool) (z : V) (h : H) (q : Option (Nat × V × Nat)) : R := Option.casesOn (motive := fun _ => R) q
  (.ok (cond ok (.tup [z, .bool false]) z) h) (fun e => .ok (cond ok (.tup [e.2.1, .bool true]) e.2.1) h)
noncomputable def cLk (kk : KyK) (ok : Bool) (z : V) (m k : X) (st : St) (fr : Fr) (h : H) : R := cond (keyOk kk (k.ev st fr)) (onMapN (m.ev st fr) (lkRes ok z h none)
  (fun r => onMapB (h.get r) (fun es _ => onSome (findK kk (k.ev st fr) es) (lkRes ok z h)))) .no
noncomputable def cMent (kk : KyK) (z : V) (m k : X) (st : St) (fr : Fr) (h : H) : R := onMap (m.ev st fr) (fun r => cond (keyOk kk (k.ev st fr)) (onMapB (h.get r) (fun es clock =>
  onSome (findK kk (k.ev st fr) es) (fun q => Option.casesOn (motive := fun _ => R) q
    (.ok (.tup [z, .int .i64 (Int.ofNat clock)]) (h.put r (.map (app es [(k.ev st fr, z, clock)]) (Nat.succ clock))))
    (fun e => .ok (.tup [e.2.1, .int .i64 (Int.ofNat e.2.2)]) h)))) .no)
noncomputable def findS (s : Nat) (es : List (V × V × Nat)) : Option Nat :=
  List.rec (motive := fun _ => Nat → Option Nat) (fun _ => none) (fun e _ ih i => cond (Nat.beq e.2.2 s) (some i) (ih (Nat.succ i))) es 0
noncomputable def cEst (m s x : X) (st : St) (fr : Fr) (h : H) : R := onMap (m.ev st fr) (fun r => onSome (s.ev st fr).nat (fun s => onMapB (h.get r) (fun es clock =>
  onSome (findS s es) (fun i => .ok (.tup []) (h.put r (.map (setVal (x.ev st fr) es i) clock))))))
noncomputable def cRng (x : X) (st : St) (fr : Fr) (h : H) : R := onRng (x.ev st fr) (fun _ => .no) (.ok (.ptr h.next 0) (h.alloc (.miter none 0 [] 0)))
  (fun m => onMapB (h.get m) (fun _ clock => .ok (.ptr h.next 0) (h.alloc (.miter (some m) clock [] clock))))
noncomputable def decodeAt (s : List Nat) : Nat × Nat :=
  match s with
  | a :: _ => cond (Nat.blt a 128) (a, 1) (Utf8.decode ⟨((s.take 4).map UInt8.ofNat).toArray⟩ 0)
  | [] => (0, 0)
noncomputable def inL (s : Nat) (l : List Nat) : Bool := List.rec (motive := fun _ => Bool) false (fun x _ ih => cond (Nat.beq x s) true ih) l
noncomputable def nxtS (r : P) (s : List Nat) (pos : Nat) (cw : Nat × Nat) (h : H) : R :=
  .ok (.tup [.bool true, .int .i64 (Int.ofNat pos), .int .i32 (Int.ofNat cw.1)]) (h.put r (.siter s (Nat.add pos cw.2)))
noncomputable def cands (since : Nat) (seen : List Nat) (es : List (V × V × Nat)) : List (Option (V × V × Nat)) :=
  let left := filterL (fun e => !(inL e.2.2 seen)) es
  let old := filterL (fun e => Nat.blt e.2.2 since) left
  let new := filterL (fun e => Nat.ble since e.2.2) left
  app (match old with | [] => [none] | _ => []) (mapL some (app old new))
noncomputable def nxtI (r m : P) (since : Nat) (seen : List Nat) (clock : Nat) (cs : List (Option (V × V × Nat))) (h : H) (i : Nat) : R := onSome (nth cs i) (fun q => Option.casesOn (motive := fun _ => R) q
  (.ok (.tup [.bool false]) h) (fun e => .ok (.tup [.bool true, e.1, e.2.1]) (h.put r (.miter (some m) since (app seen [e.2.2]) clock))))
noncomputable def nxtC (r m : P) (since : Nat) (seen : List Nat) (clock : Nat) (cs : List (Option (V × V × Nat))) (h : H) : R :=
  cond (Nat.ble (Am.len cs) 1) (nxtI r m since seen clock cs h 0) (.ask (Am.len cs) (nxtI r m since seen clock cs h))
noncomputable def nxtM (r m : P) (since : Nat) (seen : List Nat) (last : Nat) (es : List (V × V × Nat)) (clock : Nat) (h : H) : R :=
  cond (!seen.isEmpty && !es.isEmpty && allL (fun e => Nat.ble last e.2.2) es) .no (nxtC r m since seen clock (cands since seen es) h)
noncomputable def nxtB (isStr : Bool) (r : P) (h : H) (b : Blk) : R := Blk.casesOn (motive := fun _ => R) b (fun _ _ => .no) (fun _ => .no) (fun _ _ => .no)
  (fun s pos => cond isStr (cond (Nat.blt pos (Am.len s)) (nxtS r s pos (decodeAt (dropN pos s)) h) (.ok (.tup [.bool false]) h)) .no)
  (fun m since seen last => cond isStr .no (Option.casesOn (motive := fun _ => R) m (.ok (.tup [.bool false]) h) (fun m => onMapB (h.get m) (fun es clock => nxtM r m since seen last es clock h))))
noncomputable def cNxt (isStr : Bool) (x : X) (st : St) (fr : Fr) (h : H) : R := onPtr (x.ev st fr) (fun r o => cond (Nat.beq o 0) (onSome (h.get r) (nxtB isStr r h)) .no)
noncomputable def lastL (l : List Nat) : Option Nat := List.rec (motive := fun _ => Option Nat) none (fun x _ ih => match ih with | some y => some y | none => some x) l
noncomputable def entM (h : H) (m : P) (seen : List Nat) (stepped : Nat) : R := onMapB (h.get m) (fun es clock => onSome (lastL seen) (fun stamp => cond (Nat.beq clock stepped)
  (onSome (findS stamp es) (fun i => onSome (nth es i) (fun e => .ok (.tup [e.1, e.2.1]) h))) .no))
noncomputable def cEnt (x : X) (st : St) (fr : Fr) (h : H) : R := onPtr (x.ev st fr) (fun r o => cond (Nat.beq o 0) (onSome (h.get r) (fun b => Blk.casesOn (motive := fun _ => R) b (fun _ _ => .no) (fun _ => .no) (fun _ _ => .no) (fun _ _ => .no)
  (fun m _ seen stepped => onSome m (fun m => entM h m seen stepped)))) .no)
noncomputable def cAsr (t : Nat) (ok : Bool) (z : V) (x : X) (st : St) (fr : Fr) (h : H) : R := onIf (x.ev st fr) (cond ok (.ok (.tup [z, .bool false]) h) .no)
  (fun t' v => cond (Nat.beq t' t) (.ok (cond ok (.tup [v, .bool true]) v) h) (cond ok (.ok (.tup [z, .bool false]) h) .no))
noncomputable def cExt (i : Nat) (x : X) (st : St) (fr : Fr) (h : H) : R := onTup (x.ev st fr) (fun vs => onSome (nth vs i) (fun v => .ok v h))
noncomputable def cLenc (n : Nat) (_st : St) (_fr : Fr) (h : H) : R := .ok (.int .i64 (Int.ofNat n)) h
noncomputable def cLenS (x : X) (st : St) (fr : Fr) (h : H) : R := onStr (x.ev st fr) (fun l => .ok (.int .i64 (Int.ofNat (Am.len l))) h)
noncomputable def cLenL (x : X) (st : St) (fr : Fr) (h : H) : R := onSl (x.ev st fr) (.ok (.int .i64 0) h) (fun _ _ n _ => .ok (.int .i64 (Int.ofNat n)) h)
noncomputable def cLenM (x : X) (st : St) (fr : Fr) (h : H) : R := onMapN (x.ev st fr) (.ok (.int .i64 0) h) (fun r => onMapB (h.get r) (fun es _ => .ok (.int .i64 (Int.ofNat (Am.len es))) h))
/-- what is appended or copied: how many elements, and their cells -/
noncomputable def onCells (es : Nat) (v : V) (h : H) (f : Nat → List V → R) : R := onNew v (fun l => cond (Nat.beq es 1) (f (Am.len l) (bytesV l)) .no) (f 0 []) (fun b o n _ => onSome (h.read b o (Nat.mul n es)) (f n))
noncomputable def grow (es bytes : Nat) (o n m : Nat) (cs new : List V) (h' : H) : R :=
  cond (Nat.ble (Nat.mul (Nat.add n m) bytes) 140737488355328) (onSome (takeN (Nat.mul n es) (dropN o cs)) (fun old => .ok (.sl h'.next 0 (Nat.add n m) (.fr es)) (h'.alloc (.cells (app old new) false)))) .no
noncomputable def onRow (o : Option Blk) (f : List V → Bool → R) : R := onSome o (fun b => Blk.casesOn (motive := fun _ => R) b f (fun _ => .no) (fun _ _ => .no) (fun _ _ => .no) (fun _ _ _ _ => .no))
noncomputable def appIn (es : Nat) (b : P) (o n m : Nat) (c : Cp) (new : List V) (h : H) : R := onSome (h.write b (Nat.add o (Nat.mul n es)) new) (fun h => .ok (.sl b o (Nat.add n m) c) h)
noncomputable def appTo (es bytes : Nat) (m : Nat) (new : List V) (b : P) (o n : Nat) (c : Cp) (h : H) : R := cond (Nat.beq m 0) (.ok (.sl b o n c) h) (onRow (h.get b) (fun cs ro =>
  Cp.casesOn (motive := fun _ => R) c
    (fun c => cond (Nat.ble (Nat.add n m) c) (appIn es b o n m (.ex c) new h) (grow es bytes o n m cs new h))
    (fun es' => cond (Nat.beq es es') (cond (Nat.ble (Nat.add o (Nat.mul (Nat.add n m) es)) (Am.len cs)) (appIn es b o n m (.fr es) new h) (cond ro .no (grow es bytes o n m cs new (h.put b (.dead []))))) .no)))
noncomputable def appNil (es bytes : Nat) (m : Nat) (new : List V) (h : H) : R := cond (Nat.beq m 0) (.ok .nilsl h) (cond (Nat.ble (Nat.mul m bytes) 140737488355328) (.ok (.sl h.next 0 m (.fr es)) (h.alloc (.cells new false))) .no)
noncomputable def cAppe (es bytes : Nat) (s x : X) (st : St) (fr : Fr) (h : H) : R := onCells es (x.ev st fr) h (fun m new => onSl (s.ev st fr) (appNil es bytes m new h) (fun b o n c => appTo es bytes m new b o n c h))
noncomputable def cpyTo (es : Nat) (k : Nat) (new : List V) (b : P) (o : Nat) (h : H) : R := cond (Nat.beq k 0) (.ok (.int .i64 0) h) (onSome (takeN (Nat.mul k es) new) (fun new => onSome (h.write b o new) (fun h => .ok (.int .i64 (Int.ofNat k)) h)))
noncomputable def cCpy (es : Nat) (d x : X) (st : St) (fr : Fr) (h : H) : R := onCells es (x.ev st fr) h (fun m new => onSl (d.ev st fr) (.ok (.int .i64 0) h) (fun b o n _ => cpyTo es (cond (Nat.ble m n) m n) new b o h))
noncomputable def mx2 : V → V → Option V
  | .int k x, .int k' y => cond (kEq k k') (some (.int k (cond (intLe y x) x y))) none
  | .str x, .str y => some (.str (cond (bytesLt x y) y x))
  | _, _ => none
noncomputable def mn2 : V → V → Option V
  | .int k x, .int k' y => cond (kEq k k') (some (.int k (cond (intLe x y) x y))) none
  | .str x, .str y => some (.str (cond (bytesLt y x) y x))
  | _, _ => none
noncomputable def foldX (f : V → V → Option V) (xs : List X) (st : St) (fr : Fr) (h : H) (v : V) : R :=
  List.rec (motive := fun _ => V → R) (fun v => .ok v h) (fun x _ ih v => onSome (f v (x.ev st fr)) ih) xs v
noncomputable def cMx (xs : List X) (st : St) (fr : Fr) (h : H) : R := List.casesOn (motive := fun _ => R) xs .no (fun x xs => foldX mx2 xs st fr h (x.ev st fr))
noncomputable def cMn (xs : List X) (st : St) (fr : Fr) (h : H) : R := List.casesOn (motive := fun _ => R) xs .no (fun x xs => foldX mn2 xs st fr h (x.ev st fr))
noncomputable def cCap (x : X) (st : St) (fr : Fr) (h : H) : R := onSl (x.ev st fr) (.ok (.int .i64 0) h) (fun _ _ _ c => Cp.casesOn (motive := fun _ => R) c (fun c => .ok (.int .i64 (Int.ofNat c)) h) (fun _ => .no))
noncomputable def cDel (kk : KyK) (m k : X) (st : St) (fr : Fr) (h : H) : R := cond (keyOk kk (k.ev st fr)) (onMapN (m.ev st fr) (.ok (.tup []) h) (fun r => onMapB (h.get r) (fun es clock =>
  onSome (findK kk (k.ev st fr) es) (fun q => Option.casesOn (motive := fun _ => R) q (.ok (.tup []) h) (fun e => .ok (.tup []) (h.put r (.map (dropAt es e.1) clock))))))) .no
noncomputable def cClr (z : List V) (x : X) (st : St) (fr : Fr) (h : H) : R := onSl (x.ev st fr) (.ok (.tup []) h)
  (fun b o n _ => cond (Nat.beq n 0) (.ok (.tup []) h) (onSome (h.write b o (rep n z)) (fun h => .ok (.tup []) h)))
noncomputable def cClm (x : X) (st : St) (fr : Fr) (h : H) : R := onMapN (x.ev st fr) (.ok (.tup []) h) (fun r => onMapB (h.get r) (fun _ clock => .ok (.tup []) (h.put r (.map [] clock))))
noncomputable def cUsd (x : X) (st : St) (fr : Fr) (h : H) : R := onSl (x.ev st fr) (.ok .nil h) (fun b o n c => cond (Nat.blt 0 n) (.ok (.ptr b o) h) (Cp.casesOn (motive := fun _ => R) c (fun c => cond (Nat.blt 0 c) (.ok (.ptr b o) h) .no) (fun _ => .no)))
noncomputable def cUstr (p n : X) (st : St) (fr : Fr) (h : H) : R := onSome (n.ev st fr).nat (fun n => cond (Nat.beq n 0) (.ok (.str []) h) (onPtr (p.ev st fr) (fun b o =>
  onSome (h.read b o n) (fun cs => onSome (toBytes cs) (fun l => onSome (h.cells b) (fun all => .ok (.str l) (h.put b (.cells all true))))))))

noncomputable def C.sem (c : C) : St → Fr → H → R :=
  C.casesOn (motive := fun _ => St → Fr → H → R) c cMv cPick cAlloc cBox cBuild cBslice cLd cLdn cSt cNck cAr cCmp cBits cShl cShr cSadd cScmp cEqv cNeg cNot cXorU cI2i cI2s cS2s cS2b cB2s
    cMkif cMkfn cMkmap cMksl cSls cSlc cSlarr cFa cFld cFldn cIxa cIxarr cIxs cIxag cLk cMset cMent cEst cRng cNxt cEnt cAsr cExt cLenc cLenS cLenL cLenM cAppe cCpy cMx cMn cCap cDel cClr cClm cUsd cUstr

/-! ### regions, code, calls -/
inductive It where
  | op (c : C)
  | gop (i : I) (w : Bool) (c : C)
  | call (f : P) (xs : List X)
  | gcall (i : I) (w : Bool) (f : P) (xs : List X)
  | callv (x : X) (xs : List X)
  | gcallv (i : I) (w : Bool) (x : X) (xs : List X)
  | keep (p : P)
  | re (c : C) (i : I)
  | gre (g : I) (w : Bool) (c : C) (i : I)
  | name (c : C)                 -- takes the id of what c makes; the block is not there yet
  | init (i : I)                 -- puts it there
  | slot (p : P) (i : I)
  deriving Inhabited

inductive K where
  | skip
  | reg (ord : List Nat) (l : List It)
  | seq (a b : K)
  | cond (x : X) (a b : K)
  | block (id : Nat) (a : K)
  | loop (a : K)
  | exit (id : Nat)
  | ret
  deriving Inhabited

inductive RV where
  | tmp (p : P)
  | cell (p : P)
  | celln (p : P) (n : Nat)

inductive Ext where
  | indexByteString | indexString | countString | noEscape | makeNoZero
  deriving Inhabited

structure AF where
  params : List P
  body : K
  ext : Option Ext
  res : List RV
  sk : Fr            -- the frame at the beginning: empty, of whatever form
  deriving Inhabited

/-- the outcome of a piece of code -/
inductive RO where
  | no
  | ask (n : Nat) (k : Nat → RO)
  | norm (fr : Fr) (h : H)
  | exit (id : Nat) (fr : Fr) (h : H)
  | ret (fr : Fr) (h : H)

abbrev CallF := P → List V → H → R

mutual
def V.beq : V → V → Bool
  | .int k n, .int k' n' => kEq k k' && intEq n n'
  | .bool a, .bool b => Bool.casesOn a (!b) b
  | .str a, .str b => a == b
  | .nil, .nil | .nilsl, .nilsl | .nilmap, .nilmap | .nilfn, .nilfn | .niliface, .niliface => true
  | .ptr b o, .ptr b' o' => decide (b = b') && Nat.beq o o'
  | .sl b o n c, .sl b' o' n' c' => decide (b = b') && Nat.beq o o' && Nat.beq n n' && decide (c = c')
  | .map b, .map b' => decide (b = b')
  | .fn f x c, .fn f' x' c' => decide (f = f') && V.beqs x x' && V.beqs c c'
  | .iface t v, .iface t' v' => Nat.beq t t' && V.beq v v'
  | .agg x, .agg y | .tup x, .tup y => V.beqs x y
  | _, _ => false
def V.beqs : List V → List V → Bool
  | [], [] => true
  | a :: x, b :: y => V.beq a b && V.beqs x y
  | _, _ => false
end

noncomputable def onGuard (g : V) (w : Bool) (a b : R) : R := V.casesOn (motive_1 := fun _ => R) g (fun _ _ => .no) (fun t => cond (Bool.casesOn (motive := fun _ => Bool) t (!w) w) a b) (fun _ => .no) .no (fun _ _ => .no) .no (fun _ _ _ _ => .no) .no (fun _ => .no) (fun _ _ _ => .no) .no (fun _ _ => .no) .no (fun _ => .no)
  (fun l => List.casesOn (motive := fun _ => R) l b (fun _ _ => .no)) .no .no
noncomputable def push (k : St → Fr → H → RO) (st : St) (fr : Fr) (r : R) : RO := R.rec (motive := fun _ => RO) .no (fun v h => k (v :: st) fr h) (fun n _ ih => .ask n ih) r
noncomputable def callX (cf : CallF) (f : V) (vs : List V) (h : H) : R := onFn f (fun g a c => cf g (app a (app vs c)) h)
noncomputable def same (k : St → Fr → H → RO) (st : St) (fr : Fr) (h : H) (v : V) (r : R) : RO := R.casesOn (motive := fun _ => RO) r .no (fun v' _ => cond (v'.beq v) (k st fr h) .no) (fun _ _ => .no)
abbrev KK := St → Fr → H → RO
noncomputable def itOp (_cf : CallF) (k : KK) (c : C) (st : St) (fr : Fr) (h : H) : RO := push k st fr (c.sem st fr h)
noncomputable def itGop (_cf : CallF) (k : KK) (i : I) (w : Bool) (c : C) (st : St) (fr : Fr) (h : H) : RO := push k st fr (onGuard (nthI .junk i st) w (c.sem st fr h) (.ok (.tup []) h))
noncomputable def itCall (cf : CallF) (k : KK) (f : P) (xs : List X) (st : St) (fr : Fr) (h : H) : RO := push k st fr (cf f (evs xs st fr) h)
noncomputable def itGcall (cf : CallF) (k : KK) (i : I) (w : Bool) (f : P) (xs : List X) (st : St) (fr : Fr) (h : H) : RO := push k st fr (onGuard (nthI .junk i st) w (cf f (evs xs st fr) h) (.ok (.tup []) h))
noncomputable def itCallv (cf : CallF) (k : KK) (x : X) (xs : List X) (st : St) (fr : Fr) (h : H) : RO := push k st fr (callX cf (x.ev st fr) (evs xs st fr) h)
noncomputable def itGcallv (cf : CallF) (k : KK) (i : I) (w : Bool) (x : X) (xs : List X) (st : St) (fr : Fr) (h : H) : RO := push k st fr (onGuard (nthI .junk i st) w (callX cf (x.ev st fr) (evs xs st fr) h) (.ok (.tup []) h))
noncomputable def itKeep (_cf : CallF) (k : KK) (p : P) (st : St) (fr : Fr) (h : H) : RO := k st (fr.set p (nthI .junk .z st)) h
noncomputable def itRe (_cf : CallF) (k : KK) (c : C) (i : I) (st : St) (fr : Fr) (h : H) : RO := same k st fr h (nthI .junk i st) (c.sem st fr h)
noncomputable def itGre (_cf : CallF) (k : KK) (g : I) (w : Bool) (c : C) (i : I) (st : St) (fr : Fr) (h : H) : RO := same k st fr h (nthI .junk i st) (onGuard (nthI .junk g st) w (c.sem st fr h) (.ok (.tup []) h))
noncomputable def onCs (o : Option Blk) (f : List V → RO) : RO := Option.casesOn (motive := fun _ => RO) o .no (fun b => Blk.casesOn (motive := fun _ => RO) b (fun cs _ => f cs) (fun _ => .no) (fun _ _ => .no) (fun _ _ => .no) (fun _ _ _ _ => .no))
noncomputable def onDead (o : Option Blk) (f : List V → RO) : RO := Option.casesOn (motive := fun _ => RO) o .no (fun b => Blk.casesOn (motive := fun _ => RO) b (fun _ _ => .no) f (fun _ _ => .no) (fun _ _ => .no) (fun _ _ _ _ => .no))
noncomputable def itName (_cf : CallF) (k : KK) (c : C) (st : St) (fr : Fr) (h : H) : RO := R.casesOn (motive := fun _ => RO) (c.sem st fr h) .no (fun v h2 => onCs (h2.get h.next) (fun cs => k (v :: st) fr (h.alloc (.dead cs)))) (fun _ _ => .no)
noncomputable def V.blk (v : V) : Option P := V.casesOn (motive_1 := fun _ => Option P) v (fun _ _ => none) (fun _ => none) (fun _ => none) none (fun b _ => some b) none (fun b _ _ _ => some b) none (fun _ => none) (fun _ _ _ => none) none (fun _ _ => none) none (fun _ => none) (fun _ => none) none none
noncomputable def itInit (_cf : CallF) (k : KK) (i : I) (st : St) (fr : Fr) (h : H) : RO := Option.casesOn (motive := fun _ => RO) (nthI .junk i st).blk .no (fun b => onDead (h.get b) (fun cs => k st fr (h.put b (.cells cs false))))
noncomputable def itSlot (_cf : CallF) (k : KK) (p : P) (i : I) (st : St) (fr : Fr) (h : H) : RO := k st (fr.set p (nthI .junk i st)) h
noncomputable def It.sem (it : It) (cf : CallF) (k : KK) : KK := It.casesOn (motive := fun _ => KK) it (itOp cf k) (itGop cf k) (itCall cf k) (itGcall cf k) (itCallv cf k) (itGcallv cf k) (itKeep cf k) (itRe cf k) (itGre cf k) (itName cf k) (itInit cf k) (itSlot cf k)

noncomputable def runIts (cf : CallF) (l : List It) : KK := List.rec (motive := fun _ => KK) (fun _ fr h => .norm fr h) (fun it _ ih => it.sem cf ih) l

noncomputable def after (r : RO) (f : Fr → H → RO) : RO := RO.rec (motive := fun _ => RO) .no (fun n _ ih => .ask n ih) f (fun id fr h => .exit id fr h) (fun fr h => .ret fr h) r
noncomputable def iter (f : Fr → H → RO) (n : Nat) : Fr → H → RO := Nat.rec (motive := fun _ => Fr → H → RO) (fun _ _ => .no) (fun _ ih fr h => after (f fr h) ih) n
noncomputable def kCond (v : V) (a b : RO) : RO := V.casesOn (motive_1 := fun _ => RO) v (fun _ _ => .no) (fun t => cond t a b) (fun _ => .no) .no (fun _ _ => .no) .no (fun _ _ _ _ => .no) .no (fun _ => .no) (fun _ _ _ => .no) .no (fun _ _ => .no) .no (fun _ => .no) (fun _ => .no) .no .no
noncomputable def kBlock (id : Nat) (r : RO) : RO := RO.rec (motive := fun _ => RO) .no (fun n _ ih => .ask n ih) (fun fr h => .norm fr h) (fun i fr h => cond (Nat.beq i id) (.norm fr h) (.exit i fr h)) (fun fr h => .ret fr h) r
noncomputable def exec (cf : CallF) (loops : Nat) (k : K) : Fr → H → RO :=
  K.rec (motive := fun _ => Fr → H → RO)
    RO.norm
    (fun _ l => runIts cf l [])
    (fun _ _ ia ib fr h => after (ia fr h) ib)
    (fun x _ _ ia ib fr h => kCond (x.ev [] fr) (ia fr h) (ib fr h))
    (fun id _ ia fr h => kBlock id (ia fr h))
    (fun _ ia => iter ia loops)
    RO.exit
    RO.ret k

noncomputable def initFr (ps : List P) (vs : List V) (fr : Fr) : Option Fr :=
  List.rec (motive := fun _ => List V → Fr → Option Fr) (fun vs fr => List.casesOn (motive := fun _ => Option Fr) vs (some fr) (fun _ _ => none))
    (fun p _ ih vs fr => List.casesOn (motive := fun _ => Option Fr) vs none (fun v t => ih t (fr.set p v))) ps vs fr

noncomputable def res1 (fr : Fr) (h : H) (r : RV) : Option V := match r with
  | .tmp p => fr.get p
  | .cell p => (match fr.get p with | some (.ptr b o) => (match h.cells b with | some cs => nth cs o | none => none) | _ => none)
  | .celln p n => (match fr.get p with | some (.ptr b o) => (match h.read b o n with | some cs => some (.agg cs) | none => none) | _ => none)
noncomputable def resOf (fr : Fr) (h : H) (l : List RV) : Option (List V) :=
  List.rec (motive := fun _ => Option (List V)) (some [])
    (fun r _ ih => Option.casesOn (motive := fun _ => Option (List V)) ih none (fun vs => Option.casesOn (motive := fun _ => Option (List V)) (res1 fr h r) none (fun v => some (v :: vs)))) l

def packR : List V → V
  | [v] => v
  | vs => .tup vs
noncomputable def retR (fr : Fr) (h : H) (l : List RV) : R := match resOf fr h l with | some vs => .ok (packR vs) h | none => .no

noncomputable def indexByte (c : Int) (s : List Nat) : Int :=
  List.rec (motive := fun _ => Nat → Int) (fun _ => -1) (fun x _ ih i => cond (intEq (Int.ofNat x) c) (Int.ofNat i) (ih (Nat.succ i))) s 0
noncomputable def prefixL (p : List Nat) : List Nat → Bool :=
  List.rec (motive := fun _ => List Nat → Bool) (fun _ => true) (fun x _ ih s => List.casesOn (motive := fun _ => Bool) s false (fun y t => cond (Nat.beq x y) (ih t) false)) p
noncomputable def indexStr (p : List Nat) (s : List Nat) : Int :=
  List.rec (motive := fun _ => Nat → Int) (fun i => cond (prefixL p []) (Int.ofNat i) (-1)) (fun x t ih i => cond (prefixL p (x :: t)) (Int.ofNat i) (ih (Nat.succ i))) s 0
noncomputable def extR (h : H) (e : Ext) (args : List V) : R :=
  match e, args with
  | .noEscape, [x] => .ok x h
  | .indexByteString, [.str s, .int .u8 (.ofNat c)] => cond (Nat.blt c 256) (.ok (.int .i64 (indexByte (.ofNat c) s)) h) .no
  | .countString, [.str s, .int .u8 (.ofNat c)] => cond (Nat.blt c 256) (.ok (.int .i64 (Int.ofNat (len (filterL (fun x => intEq (Int.ofNat x) (.ofNat c)) s)))) h) .no
  | .indexString, [.str a, .str b] => cond (Nat.blt (len b) 2 || Nat.blt 63 (len b)) .no (.ok (.int .i64 (indexStr b a)) h)
  | .makeNoZero, [.int _ (.ofNat n)] => cond (Nat.ble n 140737488355328) (.ok (.sl h.next 0 n (.fr 1)) (h.alloc (.cells (rep n [.undef]) false))) .no
  | _, _ => .no

noncomputable def endR (res : List RV) (r : RO) : R := RO.rec (motive := fun _ => R) .no (fun n _ ih => .ask n ih) (fun fr h => retR fr h res) (fun _ _ _ => .no) (fun fr h => retR fr h res) r
noncomputable def callF (cf : CallF) (loops : Nat) (fn : AF) (args : List V) (h : H) : R := Option.casesOn (motive := fun _ => R) fn.ext
  (onSome (initFr fn.params args fn.sk) (fun fr => endR fn.res (exec cf loops fn.body fr h))) (fun e => extR h e args)
noncomputable def call (fns : T AF) (loops : Nat) (d : Nat) : CallF :=
  Nat.rec (motive := fun _ => CallF) (fun _ _ _ => .no) (fun _ ih f args h => onSome (fns.get f) (fun fn => callF ih loops fn args h)) d
end Go.Am
namespace Go.Am

theorem P.num_succ (p : P) : p.succ.num = p.num + 1 := by
  induction p with
  | z => rfl
  | l p ih => show (P.r p).num = (P.l p).num + 1; simp [P.num]
  | r p ih => show (P.l p.succ).num = (P.r p).num + 1; simp only [P.num, ih]; omega
theorem P.num_inj : ∀ {p q : P}, p.num = q.num → p = q := by
  intro p
  induction p with
  | z => intro q h; cases q <;> simp only [P.num] at h <;> first | rfl | omega
  | l p ih => intro q h; cases q with
    | z => simp only [P.num] at h; omega
    | l q => simp only [P.num] at h; rw [ih (show p.num = q.num by omega)]
    | r q => simp only [P.num] at h; omega
  | r p ih => intro q h; cases q with
    | z => simp only [P.num] at h; omega
    | l q => simp only [P.num] at h; omega
    | r q => simp only [P.num] at h; rw [ih (show p.num = q.num by omega)]
theorem P.beq_iff : ∀ (p q : P), p.beq q = true ↔ p = q := by
  intro p
  induction p with
  | z => intro q; cases q <;> simp [P.beq]
  | l p ih => intro q; cases q with
    | l q => exact (ih q).trans (by simp)
    | z => simp [P.beq]
    | r q => simp [P.beq]
  | r p ih => intro q; cases q with
    | r q => exact (ih q).trans (by simp)
    | z => simp [P.beq]
    | l q => simp [P.beq]

theorem T.get_nil {α : Type} (p : P) : (T.nil : T α).get p = none := by cases p <;> rfl
theorem T.get_set {α : Type} (p : P) : ∀ (t : T α) (a : α) (q : P), (t.set p a).get q = if p = q then some a else t.get q := by
  induction p with
  | z =>
    intro t a q
    cases t with
    | nil => cases q with
      | z => rfl
      | l q => show (T.nil : T α).get q = _; simp [T.get_nil]
      | r q => show (T.nil : T α).get q = _; simp [T.get_nil]
    | node tl v tr => cases q <;> simp [T.set, T.get]
  | l p ih =>
    intro t a q
    cases t with
    | nil =>
      show (T.node (T.nil.set p a) none T.nil).get q = _
      cases q with
      | z => simp [T.get]
      | l q => show (T.nil.set p a).get q = _; rw [ih]; simp [T.get_nil]
      | r q => show (T.nil : T α).get q = _; simp [T.get_nil]
    | node tl v tr =>
      show (T.node (tl.set p a) v tr).get q = _
      cases q with
      | z => simp [T.get]
      | l q => show (tl.set p a).get q = _; rw [ih]; simp; rfl
      | r q => simp [T.get]
  | r p ih =>
    intro t a q
    cases t with
    | nil =>
      show (T.node T.nil none (T.nil.set p a)).get q = _
      cases q with
      | z => simp [T.get]
      | r q => show (T.nil.set p a).get q = _; rw [ih]; simp [T.get_nil]
      | l q => show (T.nil : T α).get q = _; simp [T.get_nil]
    | node tl v tr =>
      show (T.node tl v (tr.set p a)).get q = _
      cases q with
      | z => simp [T.get]
      | r q => show (tr.set p a).get q = _; rw [ih]; simp; rfl
      | l q => simp [T.get]

theorem nth_eq {α : Type} : ∀ (l : List α) (k : Nat), nth l k = l[k]? := by
  intro l
  induction l with
  | nil => intro k; rfl
  | cons a t ih => intro k; cases k with
    | zero => rfl
    | succ k => exact ih k
theorem nthI_eq {α : Type} (d : α) : ∀ (i : I) (l : List α), nthI d i l = l.getD i.num d := by
  intro i
  induction i with
  | z => intro l; cases l <;> rfl
  | s i ih => intro l; cases l with
    | nil => rfl
    | cons a t => show nthI d i t = _; rw [ih]; simp [I.num]
theorem app_eq {α : Type} (a b : List α) : app a b = a ++ b := by
  induction a with
  | nil => rfl
  | cons x t ih => show x :: app t b = _; rw [ih]; rfl
theorem mapL_eq {α β : Type} (f : α → β) (a : List α) : mapL f a = a.map f := by
  induction a with
  | nil => rfl
  | cons x t ih => show f x :: mapL f t = _; rw [ih]; rfl
theorem len_eq {α : Type} (a : List α) : Am.len a = a.length := by
  have h : ∀ (a : List α) (n : Nat), List.rec (motive := fun _ => Nat → Nat) (fun n => n) (fun _ _ ih n => ih (Nat.succ n)) a n = n + a.length := by
    intro a
    induction a with
    | nil => intro n; rfl
    | cons x t ih => intro n; show List.rec (motive := fun _ => Nat → Nat) (fun n => n) (fun _ _ ih n => ih (Nat.succ n)) t (n + 1) = _; rw [ih]; simp; omega
  exact (h a 0).trans (by simp)
theorem dropN_eq {α : Type} : ∀ (l : List α) (k : Nat), dropN k l = l.drop k := by
  intro l
  induction l with
  | nil => intro k; cases k <;> rfl
  | cons a t ih => intro k; cases k with
    | zero => rfl
    | succ k => exact ih k
theorem takeN_eq {α : Type} : ∀ (n : Nat) (l : List α), takeN n l = if n ≤ l.length then some (l.take n) else none := by
  intro n
  induction n with
  | zero => intro l; simp; rfl
  | succ n ih => intro l; cases l with
    | nil => simp; rfl
    | cons a t =>
      show Option.casesOn (motive := fun _ => Option (List α)) (takeN n t) none (fun r => some (a :: r)) = _
      rw [ih]
      by_cases h : n ≤ t.length
      · rw [if_pos h, if_pos (by simpa using h)]; rfl
      · rw [if_neg h, if_neg (by simpa using h)]
theorem takeN_some {α : Type} {n : Nat} {l r : List α} (h : takeN n l = some r) : n ≤ l.length ∧ r = l.take n := by
  rw [takeN_eq] at h
  split at h
  · exact ⟨‹_›, (Option.some.inj h).symm⟩
  · cases h
theorem putN_some {α : Type} : ∀ {vs l r : List α}, putN vs l = some r → vs.length ≤ l.length ∧ r = vs ++ l.drop vs.length := by
  intro vs
  induction vs with
  | nil => intro l r h; have : some l = some r := h; simp at this; simp [this]
  | cons v t ih => intro l r h; cases l with
    | nil => cases h
    | cons a l =>
      have h : Option.casesOn (motive := fun _ => Option (List α)) (putN t l) none (fun r => some (v :: r)) = some r := h
      cases h' : putN t l with
      | none => rw [h'] at h; cases h
      | some r' =>
        rw [h'] at h
        obtain ⟨h1, h2⟩ := ih h'
        have h : some (v :: r') = some r := h
        simp at h
        subst h
        exact ⟨by simp; omega, by rw [h2]; simp⟩
theorem putAt_some {α : Type} : ∀ {o : Nat} {vs l r : List α}, putAt o vs l = some r → o + vs.length ≤ l.length ∧ r = l.take o ++ vs ++ l.drop (o + vs.length) := by
  intro o
  induction o with
  | zero => intro vs l r h; have h : putN vs l = some r := h; obtain ⟨h1, h2⟩ := putN_some h; exact ⟨by omega, by rw [h2]; simp⟩
  | succ o ih => intro vs l r h; cases l with
    | nil => cases h
    | cons a l =>
      have h : Option.casesOn (motive := fun _ => Option (List α)) (putAt o vs l) none (fun r => some (a :: r)) = some r := h
      cases h' : putAt o vs l with
      | none => rw [h'] at h; cases h
      | some r' =>
        rw [h'] at h
        obtain ⟨h1, h2⟩ := ih h'
        have h : some (a :: r') = some r := h
        simp at h
        subst h
        refine ⟨by simp; omega, ?_⟩
        rw [h2]
        simp [show o + 1 + vs.length = (o + vs.length) + 1 by omega]
theorem putAt_length {α : Type} {o : Nat} {vs l r : List α} (h : putAt o vs l = some r) : r.length = l.length := by
  obtain ⟨h1, rfl⟩ := putAt_some h
  simp; omega
theorem putAt_get {α : Type} {o : Nat} {vs l r : List α} (h : putAt o vs l = some r) (j : Nat) : r[j]? = if o ≤ j ∧ j < o + vs.length then vs[j - o]? else l[j]? := by
  obtain ⟨h1, rfl⟩ := putAt_some h
  rw [List.append_assoc]
  by_cases hj : j < o
  · rw [if_neg (by omega), List.getElem?_append_left (by simp; omega), List.getElem?_take, if_pos hj]
  · by_cases hj2 : j < o + vs.length
    · rw [if_pos ⟨by omega, hj2⟩, List.getElem?_append_right (by simp; omega), List.getElem?_append_left (by simp; omega)]
      congr 1
      simp; omega
    · rw [if_neg (by omega), List.getElem?_append_right (by simp; omega), List.getElem?_append_right (by simp; omega), List.getElem?_drop]
      congr 1
      simp; omega
theorem rep_length {α : Type} (n : Nat) (z : List α) : (rep n z).length = n * z.length := by
  induction n with
  | zero => show ([] : List α).length = _; simp
  | succ n ih => show (app z (rep n z)).length = _; rw [app_eq, List.length_append, ih, Nat.add_mul]; omega
theorem rep_get {α : Type} (n : Nat) (z : List α) : ∀ j, j < n * z.length → (rep n z)[j]? = z[j % z.length]? := by
  induction n with
  | zero => intro j h; simp at h
  | succ n ih =>
    intro j h
    show (app z (rep n z))[j]? = _
    rw [app_eq]
    by_cases hj : j < z.length
    · rw [List.getElem?_append_left hj, Nat.mod_eq_of_lt hj]
    · rw [List.getElem?_append_right (by omega), ih (j - z.length) (by rw [Nat.add_mul] at h; omega)]
      congr 1
      rw [← Nat.mod_eq_sub_mod (by omega)]
theorem allL_eq {α : Type} (f : α → Bool) (a : List α) : allL f a = a.all f := by
  induction a with
  | nil => rfl
  | cons x t ih => show cond (f x) (allL f t) false = _; rw [ih]; cases h : f x <;> simp [h]
theorem filterL_eq {α : Type} (f : α → Bool) (a : List α) : filterL f a = a.filter f := by
  induction a with
  | nil => rfl
  | cons x t ih => show cond (f x) (x :: filterL f t) (filterL f t) = _; rw [ih]; cases h : f x <;> simp [h]
theorem beqL_iff {α : Type} (f : α → α → Bool) (hf : ∀ a b, f a b = true ↔ a = b) : ∀ (a b : List α), beqL f a b = true ↔ a = b := by
  intro a
  induction a with
  | nil => intro b; cases b <;> simp [beqL]
  | cons x t ih => intro b; cases b with
    | nil => simp [beqL]
    | cons y s =>
      show cond (f x y) (beqL f t s) false = true ↔ _
      cases h : f x y with
      | true => rw [cond_true, ih, (hf x y).1 h]; simp
      | false => rw [cond_false]; constructor
                 · intro h'; cases h'
                 · intro h'; simp at h'; rw [(hf x y).2 h'.1] at h; cases h
theorem natBeq_iff (a b : Nat) : Nat.beq a b = true ↔ a = b := ⟨Nat.eq_of_beq_eq_true, fun h => by subst h; exact Nat.beq_refl a⟩
theorem natBle_iff (a b : Nat) : Nat.ble a b = true ↔ a ≤ b := by rw [Nat.ble_eq]
theorem natBlt_iff (a b : Nat) : Nat.blt a b = true ↔ a < b := by unfold Nat.blt; rw [Nat.ble_eq]; exact Iff.rfl

theorem onSome_ok {α : Type} {o : Option α} {f : α → R} {r : R} (h : onSome o f = r) (hr : r ≠ .no) : ∃ a, o = some a ∧ f a = r := by
  cases o with
  | none => exact absurd h.symm hr
  | some a => exact ⟨a, rfl, h⟩
end Go.Am
namespace Go.Am

/-- where an abstract block lies: the block, from which cell on, how many cells the block has, of which element type -/
structure Loc where
  g : Nat
  d : Nat
  tot : Nat
  e : TypeId

abbrev Io := P → Option Loc
def Io.le (ι κ : Io) : Prop := ∀ b l, ι b = some l → κ b = some l
theorem Io.le_refl (ι : Io) : ι.le ι := fun _ _ h => h
theorem Io.le_trans {ι κ μ : Io} (h : ι.le κ) (k : κ.le μ) : ι.le μ := fun b l e => k b l (h b l e)

/-- a known capacity; or one that goes to the end of the block -/
def capOk (l : Loc) (o cap : Nat) : Cp → Prop
  | .ex k => cap = k
  | .fr es => l.d + o + cap * es = l.tot

inductive VR (ι : Io) : V → Value → Prop where
  | int (k : IntKind) (n : Int) : VR ι (.int k n) (.int k n)
  | bool (b : Bool) : VR ι (.bool b) (.bool b)
  | str (s : ByteArray) : VR ι (.str (s.data.toList.map (·.toNat))) (.string s)
  | nil : VR ι .nil (.pointer none)
  | ptr {b : P} {o : Nat} {l : Loc} : ι b = some l → VR ι (.ptr b o) (.pointer (some ⟨l.g, l.d + o, none⟩))
  | nilsl : VR ι .nilsl (.slice none 0 0)
  | sl {b : P} {o n cap : Nat} {c : Cp} {l : Loc} {a : Addr} : ι b = some l → n ≤ cap → cap ≤ maxLen → capOk l o cap c → (a = ⟨l.g, l.d + o, none⟩ ∨ cap = 0) → VR ι (.sl b o n c) (.slice (some a) n cap)
  | nilmap : VR ι .nilmap (.map none)
  | map {b : P} {l : Loc} : ι b = some l → VR ι (.map b) (.map (some l.g))
  | fn {f : P} {a c : List V} {a' c' : Array Value} : a.length = a'.size → c.length = c'.size → (∀ (i : Nat) (v : V) (v' : Value), a[i]? = some v → a'[i]? = some v' → VR ι v v') → (∀ (i : Nat) (v : V) (v' : Value), c[i]? = some v → c'[i]? = some v' → VR ι v v') →
      VR ι (.fn f a c) (.func (.func f.num) a' c')
  | nilfn : VR ι .nilfn .nilFunc
  | iface {t : TypeId} {v : V} {v' : Value} : VR ι v v' → VR ι (.iface t v) (.iface t v')
  | niliface : VR ι .niliface .nilIface
  | agg {cs : List V} {cs' : Array Value} : cs.length = cs'.size → (∀ (i : Nat) (v : V) (v' : Value), cs[i]? = some v → cs'[i]? = some v' → VR ι v v') → (∀ v' ∈ cs'.toList, v'.oneCell' = true) → VR ι (.agg cs) (.agg cs')
  | tup {vs : List V} {vs' : Array Value} : vs.length = vs'.size → (∀ (i : Nat) (v : V) (v' : Value), vs[i]? = some v → vs'[i]? = some v' → VR ι v v') → VR ι (.tup vs) (.tuple vs')
  | undef (v : Value) : v.oneCell' = true → VR ι .undef v
  | junk (v : Value) : VR ι .junk v

theorem VR.mono {ι κ : Io} (h : ι.le κ) {v : V} {v' : Value} (r : VR ι v v') : VR κ v v' := by
  induction r with
  | int k n => exact .int k n
  | bool b => exact .bool b
  | str s => exact .str s
  | nil => exact .nil
  | ptr e => exact .ptr (h _ _ e)
  | nilsl => exact .nilsl
  | sl e a b c d => exact .sl (h _ _ e) a b c d
  | nilmap => exact .nilmap
  | map e => exact .map (h _ _ e)
  | fn e1 e2 _ _ ih1 ih2 => exact .fn e1 e2 (fun i v v' a b => ih1 i v v' a b) (fun i v v' a b => ih2 i v v' a b)
  | nilfn => exact .nilfn
  | iface _ ih => exact .iface ih
  | niliface => exact .niliface
  | agg e _ o ih => exact .agg e (fun i v v' a b => ih i v v' a b) o
  | tup e _ ih => exact .tup e (fun i v v' a b => ih i v v' a b)
  | undef v o => exact .undef v o
  | junk v => exact .junk v

/-- lists of values, one by one -/
def VRs (ι : Io) (vs : List V) (vs' : List Value) : Prop := vs.length = vs'.length ∧ ∀ (i : Nat) (v : V) (v' : Value), vs[i]? = some v → vs'[i]? = some v' → VR ι v v'
theorem VRs.mono {ι κ : Io} (h : ι.le κ) {vs : List V} {vs' : List Value} (r : VRs ι vs vs') : VRs κ vs vs' := ⟨r.1, fun i v v' a b => (r.2 i v v' a b).mono h⟩
theorem VRs.nil (ι : Io) : VRs ι [] [] := ⟨rfl, fun i v v' a => by simp at a⟩
theorem VRs.cons {ι : Io} {v : V} {v' : Value} {vs : List V} {vs' : List Value} (h : VR ι v v') (r : VRs ι vs vs') : VRs ι (v :: vs) (v' :: vs') := by
  refine ⟨by simp [r.1], fun i a a' h1 h2 => ?_⟩
  cases i with
  | zero => simp at h1 h2; subst h1; subst h2; exact h
  | succ i => exact r.2 i a a' (by simpa using h1) (by simpa using h2)
theorem VRs.inv {ι : Io} {v : V} {vs : List V} {vs' : List Value} (r : VRs ι (v :: vs) vs') : ∃ v' t, vs' = v' :: t ∧ VR ι v v' ∧ VRs ι vs t := by
  cases vs' with
  | nil => have := r.1; simp at this
  | cons v' t =>
    refine ⟨v', t, rfl, r.2 0 _ _ (by simp) (by simp), ?_, fun i a a' h1 h2 => r.2 (i + 1) a a' (by simpa using h1) (by simpa using h2)⟩
    have := r.1; simpa using this
theorem VRs.nil_inv {ι : Io} {vs' : List Value} (r : VRs ι [] vs') : vs' = [] := List.eq_nil_of_length_eq_zero r.1.symm
theorem VRs.append {ι : Io} {a b : List V} {a' b' : List Value} (h : VRs ι a a') (k : VRs ι b b') : VRs ι (a ++ b) (a' ++ b') := by
  refine ⟨by simp [h.1, k.1], fun i v v' h1 h2 => ?_⟩
  by_cases hi : i < a.length
  · rw [List.getElem?_append_left hi] at h1
    rw [List.getElem?_append_left (by rw [← h.1]; exact hi)] at h2
    exact h.2 i v v' h1 h2
  · rw [List.getElem?_append_right (by omega)] at h1
    rw [List.getElem?_append_right (by rw [← h.1]; omega)] at h2
    rw [← h.1] at h2
    exact k.2 _ v v' h1 h2
theorem VRs.get {ι : Io} {a : List V} {a' : List Value} (h : VRs ι a a') {i : Nat} {v : V} (e : a[i]? = some v) : ∃ v', a'[i]? = some v' ∧ VR ι v v' := by
  have hi : i < a'.length := by rw [← h.1]; exact (List.getElem?_eq_some_iff.1 e).1
  exact ⟨a'[i], List.getElem?_eq_getElem hi, h.2 i v _ e (List.getElem?_eq_getElem hi)⟩
theorem VRs.take {ι : Io} {a : List V} {a' : List Value} (h : VRs ι a a') (n : Nat) : VRs ι (a.take n) (a'.take n) := by
  refine ⟨by simp [h.1], fun i v v' h1 h2 => ?_⟩
  rw [List.getElem?_take] at h1 h2
  split at h1
  · rw [if_pos ‹_›] at h2; exact h.2 i v v' h1 h2
  · cases h1
theorem VRs.drop {ι : Io} {a : List V} {a' : List Value} (h : VRs ι a a') (n : Nat) : VRs ι (a.drop n) (a'.drop n) := by
  refine ⟨by simp [h.1], fun i v v' h1 h2 => ?_⟩
  rw [List.getElem?_drop] at h1 h2
  exact h.2 _ v v' h1 h2

/-- cells: each of one cell -/
def CRs (ι : Io) (vs : List V) (vs' : List Value) : Prop := VRs ι vs vs' ∧ ∀ v' ∈ vs', v'.oneCell' = true
theorem CRs.mono {ι κ : Io} (h : ι.le κ) {vs : List V} {vs' : List Value} (r : CRs ι vs vs') : CRs κ vs vs' := ⟨r.1.mono h, r.2⟩
theorem CRs.take {ι : Io} {a : List V} {a' : List Value} (h : CRs ι a a') (n : Nat) : CRs ι (a.take n) (a'.take n) := ⟨h.1.take n, fun v hv => h.2 v (List.mem_of_mem_take hv)⟩
theorem CRs.drop {ι : Io} {a : List V} {a' : List Value} (h : CRs ι a a') (n : Nat) : CRs ι (a.drop n) (a'.drop n) := ⟨h.1.drop n, fun v hv => h.2 v (List.mem_of_mem_drop hv)⟩
theorem CRs.append {ι : Io} {a b : List V} {a' b' : List Value} (h : CRs ι a a') (k : CRs ι b b') : CRs ι (a ++ b) (a' ++ b') :=
  ⟨h.1.append k.1, fun v hv => (List.mem_append.1 hv).elim (h.2 v) (k.2 v)⟩

theorem VR.agg_cells {ι : Io} {cs : List V} {v' : Value} (h : VR ι (.agg cs) v') : ∃ cs' : Array Value, v' = .agg cs' ∧ CRs ι cs cs'.toList := by
  cases h with
  | agg e r o => exact ⟨_, rfl, ⟨by simpa using e, fun i v v' a b => r i v v' a (by simpa using b)⟩, o⟩
theorem VR.of_agg {ι : Io} {cs : List V} {cs' : Array Value} (h : CRs ι cs cs'.toList) : VR ι (.agg cs) (.agg cs') :=
  .agg (by simpa using h.1.1) (fun i v v' a b => h.1.2 i v v' a (by simpa using b)) h.2
theorem VR.flat1 {ι : Io} {v : V} {v' : Value} {cs : List V} (h : VR ι v v') (e : v.flat1 = some cs) : CRs ι cs v'.cells.toList := by
  have one : v'.oneCell' = true → v.flat1 = some [v] → CRs ι cs v'.cells.toList := by
    intro ho hf
    rw [hf] at e
    obtain rfl := (Option.some.inj e).symm
    have hc : v'.cells = #[v'] := by cases v' <;> first | rfl | (simp [Value.oneCell'] at ho)
    rw [hc]
    exact ⟨VRs.cons h (VRs.nil ι), by simpa using ho⟩
  cases h with
  | agg e1 r o => simp [V.flat1] at e; subst e; exact ⟨⟨by simpa [Value.cells] using e1, fun i v v' a b => r i v v' a (by simpa [Value.cells] using b)⟩, by simpa [Value.cells] using o⟩
  | tup => simp [V.flat1] at e
  | junk => simp [V.flat1] at e
  | undef v o => exact one o rfl
  | _ => exact one rfl rfl

/-! ### memory -/
inductive BlkR (ι : Io) (l : Loc) : Blk → Obj → Prop where
  | cells {cs : List V} {ro : Bool} {cur : Array Value} {fr : Nat × Nat} : cur.size = l.tot → l.d + cs.length ≤ l.tot → (ro = false → ∀ j, l.d + j < l.tot → ¬ (fr.1 ≤ l.d + j ∧ l.d + j < fr.2)) →
      (∀ (j : Nat) (v : V), cs[j]? = some v → ∃ v', cur[l.d + j]? = some v' ∧ VR ι v v' ∧ v'.oneCell' = true) → BlkR ι l (.cells cs ro) (.cells cur l.e fr)
  | map {es : List (V × V × Nat)} {clock : Nat} {entries : Array MapEntry} : l.d = 0 → es.length = entries.size →
      (∀ (i : Nat) (e : V × V × Nat) (e' : MapEntry), es[i]? = some e → entries[i]? = some e' → VR ι e.1 e'.key ∧ VR ι e.2.1 e'.val ∧ e.2.2 = e'.born) → BlkR ι l (.map es clock) (.map entries clock)
  | siter {s : ByteArray} {pos : Nat} : l.d = 0 → BlkR ι l (.siter (s.data.toList.map (·.toNat)) pos) (.stringIter s pos)
  | miterN {a c : Nat} {b : List Nat} : l.d = 0 → BlkR ι l (.miter none a b c) (.mapIter none a b.toArray c)
  | miter {m : P} {lm : Loc} {a c : Nat} {b : List Nat} : l.d = 0 → ι m = some lm → BlkR ι l (.miter (some m) a b c) (.mapIter (some lm.g) a b.toArray c)

theorem BlkR.mono {ι κ : Io} (h : ι.le κ) {l : Loc} {x : Blk} {o : Obj} (r : BlkR ι l x o) : BlkR κ l x o := by
  cases r with
  | cells a b c d => exact .cells a b c (fun j v e => let ⟨v', e1, e2, e3⟩ := d j v e; ⟨v', e1, e2.mono h, e3⟩)
  | map a b c => exact .map a b (fun i e e' h1 h2 => let ⟨x, y, z⟩ := c i e e' h1 h2; ⟨x.mono h, y.mono h, z⟩)
  | siter a => exact .siter a
  | miterN a => exact .miterN a
  | miter a b => exact .miter a (h _ _ b)

def Blk.alive : Blk → Bool
  | .dead _ => false
  | _ => true
def Blk.wr : Blk → Bool
  | .cells _ ro => !ro
  | .dead _ => false
  | _ => true
theorem Blk.wr_alive {x : Blk} (h : x.wr = true) : x.alive = true := by cases x <;> simp_all [Blk.wr, Blk.alive]

structure Rel (ι : Io) (h : H) (w : World) : Prop where
  blk : ∀ b x, h.get b = some x → x.alive = true → ∃ l o, ι b = some l ∧ w.heap[l.g]? = some o ∧ BlkR ι l x o
  apart : ∀ b c x y l m, h.get b = some x → h.get c = some y → x.wr = true → y.alive = true → b ≠ c → ι b = some l → ι c = some m → l.g ≠ m.g
  fresh : ∀ b l, ι b = some l → b.num < h.next.num
  dom : ∀ b x, h.get b = some x → b.num < h.next.num

/-- the concrete blocks that may be written -/
def Own (ι : Io) (h : H) (g : Nat) : Prop := ∃ b x l, h.get b = some x ∧ x.wr = true ∧ ι b = some l ∧ l.g = g

/-- the concrete blocks that the machine knows -/
def Dom (ι : Io) (h : H) (g : Nat) : Prop := ∃ b x l, h.get b = some x ∧ x.alive = true ∧ ι b = some l ∧ l.g = g
theorem Own.dom {ι : Io} {h : H} {g : Nat} : Own ι h g → Dom ι h g := fun ⟨b, x, l, h1, h2, h3, h4⟩ => ⟨b, x, l, h1, Blk.wr_alive h2, h3, h4⟩

structure Step (ι : Io) (h : H) (w : World) (ι' : Io) (h' : H) (w' : World) : Prop where
  ext : ι.le ι'
  rel : Rel ι' h' w'
  size : w.heap.size ≤ w'.heap.size
  keep : ∀ g, g < w.heap.size → ¬ Own ι h g → w'.heap[g]? = w.heap[g]?
  own : ∀ g, Own ι' h' g → Own ι h g ∨ w.heap.size ≤ g
  dom : ∀ g, Dom ι' h' g → Dom ι h g ∨ w.heap.size ≤ g
  next : h.next.num ≤ h'.next.num
  new : ∀ b l, ι' b = some l → ι b = some l ∨ h.next.num ≤ b.num
  gone : ∀ b cs, h.get b = some (.dead cs) → h'.get b = some (.dead cs)
  os : w'.os = w.os
  tape : w'.tape = w.tape
  output : w'.output = w.output

theorem Step.refl {ι : Io} {h : H} {w : World} (r : Rel ι h w) : Step ι h w ι h w := ⟨Io.le_refl ι, r, Nat.le_refl _, fun _ _ _ => rfl, fun _ h => .inl h, fun _ h => .inl h, Nat.le_refl _, fun _ _ h => .inl h, fun _ _ h => h, rfl, rfl, rfl⟩
theorem Step.trans {ι κ μ : Io} {h h1 h2 : H} {w w1 w2 : World} (a : Step ι h w κ h1 w1) (b : Step κ h1 w1 μ h2 w2) : Step ι h w μ h2 w2 := by
  refine ⟨Io.le_trans a.ext b.ext, b.rel, Nat.le_trans a.size b.size, fun g hg hn => ?_, fun g hg => ?_, fun g hg => ?_, Nat.le_trans a.next b.next, fun c l hc => ?_, fun c cs hc => b.gone c cs (a.gone c cs hc), b.os.trans a.os, b.tape.trans a.tape, b.output.trans a.output⟩
  · rw [b.keep g (Nat.lt_of_lt_of_le hg a.size) (fun ho => (a.own g ho).elim hn (fun h' => by omega)), a.keep g hg hn]
  · rcases b.own g hg with h' | h'
    · exact a.own g h'
    · exact .inr (Nat.le_trans a.size h')
  · rcases b.dom g hg with h' | h'
    · exact a.dom g h'
    · exact .inr (Nat.le_trans a.size h')
  · rcases b.new c l hc with h' | h'
    · exact a.new c l h'
    · exact .inr (Nat.le_trans a.next h')
/-- a draw alone -/
theorem Rel.of_heap {ι : Io} {h : H} {w w' : World} (r : Rel ι h w) (e : w'.heap = w.heap) : Rel ι h w' := ⟨fun b x h1 h2 => by rw [e]; exact r.blk b x h1 h2, r.apart, r.fresh, r.dom⟩
theorem Step.drawn {ι : Io} {h : H} {w : World} (r : Rel ι h w) (n : Nat) : Step ι h w ι h { w with drawn := n } := ⟨Io.le_refl ι, r.of_heap rfl, Nat.le_refl _, fun _ _ _ => rfl, fun _ h => .inl h, fun _ h => .inl h, Nat.le_refl _, fun _ _ h => .inl h, fun _ _ h => h, rfl, rfl, rfl⟩

theorem Rel.lt {ι : Io} {h : H} {w : World} (r : Rel ι h w) {b : P} {x : Blk} {l : Loc} (hb : h.get b = some x) (ha : x.alive = true) (hl : ι b = some l) : l.g < w.heap.size := by
  obtain ⟨l', o, e, e2, _⟩ := r.blk b x hb ha
  rw [hl] at e
  obtain rfl := Option.some.inj e
  exact (Array.getElem?_eq_some_iff.1 e2).1

/-! new blocks -/
def Io.add (ι : Io) (b : P) (l : Loc) : Io := fun c => if c = b then some l else ι c
theorem Io.add_same (ι : Io) (b : P) (l : Loc) : ι.add b l b = some l := if_pos rfl
theorem Io.le_add {ι : Io} {h : H} {w : World} (r : Rel ι h w) (l : Loc) : ι.le (ι.add h.next l) := by
  intro b m e
  unfold Io.add
  rw [if_neg]
  · exact e
  · intro hb; subst hb; have := r.fresh _ _ e; omega

theorem H.get_alloc (h : H) (x : Blk) (b : P) : (h.alloc x).get b = if h.next = b then some x else h.get b := T.get_set _ _ _ _
theorem H.next_alloc (h : H) (x : Blk) : (h.alloc x).next.num = h.next.num + 1 := P.num_succ _
theorem H.get_put (h : H) (c : P) (x : Blk) (b : P) : (h.put c x).get b = if c = b then some x else h.get b := T.get_set _ _ _ _
theorem H.next_put (h : H) (c : P) (x : Blk) : (h.put c x).next = h.next := rfl

theorem Step.alloc {ι : Io} {h : H} {w w' : World} (r : Rel ι h w) {x : Blk} {o : Obj} {l : Loc} (hg : l.g = w.heap.size) (hx : x.alive = true) (hb : BlkR (ι.add h.next l) l x o) (hw : w'.heap = w.heap.push o)
    (e1 : w'.os = w.os) (e2 : w'.tape = w.tape) (e3 : w'.output = w.output) : Step ι h w (ι.add h.next l) (h.alloc x) w' := by
  have hext := Io.le_add r l
  have hold : ∀ b, b.num < h.next.num → ι.add h.next l b = ι b := fun b hb => if_neg (fun e => by rw [e] at hb; omega)
  have hlt : ∀ b y, h.get b = some y → b ≠ h.next := fun b y hy e => by have := r.dom b y hy; rw [e] at this; omega
  refine ⟨hext, ⟨?_, ?_, ?_, ?_⟩, by rw [hw]; simp, ?_, ?_, ?_, by rw [H.next_alloc]; omega, ?_, ?_, e1, e2, e3⟩
  · intro b y hy ha
    rw [H.get_alloc] at hy
    split at hy
    · subst_vars
      obtain rfl := Option.some.inj hy
      exact ⟨l, o, Io.add_same _ _ _, by rw [hw, hg]; simp, hb⟩
    · obtain ⟨m, o', em, eo, hr⟩ := r.blk b y hy ha
      refine ⟨m, o', hext _ _ em, ?_, hr.mono hext⟩
      rw [hw, Array.getElem?_push, if_neg (by have := (Array.getElem?_eq_some_iff.1 eo).1; omega)]
      exact eo
  · intro b c y z m n hy hz hwr hal hne em en
    rw [H.get_alloc] at hy hz
    by_cases hbn : h.next = b
    · subst hbn
      rw [Io.add_same] at em
      obtain rfl := Option.some.inj em
      rw [if_neg hne] at hz
      rw [hold c (r.dom c z hz)] at en
      have := r.lt hz hal en
      omega
    · rw [if_neg hbn] at hy
      rw [hold b (r.dom b y hy)] at em
      by_cases hcn : h.next = c
      · subst hcn
        rw [Io.add_same] at en
        obtain rfl := Option.some.inj en
        have := r.lt hy (Blk.wr_alive hwr) em
        omega
      · rw [if_neg hcn] at hz
        rw [hold c (r.dom c z hz)] at en
        exact r.apart b c y z m n hy hz hwr hal hne em en
  · intro b m em
    rw [H.next_alloc]
    by_cases hbn : b = h.next
    · subst hbn; omega
    · unfold Io.add at em
      rw [if_neg hbn] at em
      have := r.fresh b m em
      omega
  · intro b y hy
    rw [H.next_alloc]
    rw [H.get_alloc] at hy
    split at hy
    · subst_vars; omega
    · have := r.dom b y hy; omega
  · intro g hg' _
    rw [hw, Array.getElem?_push, if_neg (by omega)]
  · rintro g ⟨b, y, m, hy, hwr, em, rfl⟩
    rw [H.get_alloc] at hy
    split at hy
    · subst_vars
      rw [Io.add_same] at em
      obtain rfl := Option.some.inj em
      exact .inr (by omega)
    · rw [hold b (r.dom b y hy)] at em
      exact .inl ⟨b, y, m, hy, hwr, em, rfl⟩
  · rintro g ⟨b, y, m, hy, hal, em, rfl⟩
    rw [H.get_alloc] at hy
    split at hy
    · subst_vars
      rw [Io.add_same] at em
      obtain rfl := Option.some.inj em
      exact .inr (by omega)
    · rw [hold b (r.dom b y hy)] at em
      exact .inl ⟨b, y, m, hy, hal, em, rfl⟩
  · intro b m em
    by_cases hbn : b = h.next
    · subst hbn; exact .inr (Nat.le_refl _)
    · unfold Io.add at em
      rw [if_neg hbn] at em
      exact .inl em
  · intro b cs hb
    rw [H.get_alloc, if_neg (fun e => hlt b _ hb e.symm)]
    exact hb

/-! a block that is written -/
theorem Step.put {ι : Io} {h : H} {w w' : World} (r : Rel ι h w) {b : P} {x y : Blk} {l : Loc} {o : Obj} (hx : h.get b = some x) (hwr : x.wr = true) (hy : y.alive = true) (hl : ι b = some l) (hb : BlkR ι l y o) (ho : w'.heap[l.g]? = some o)
    (hk : ∀ g, g ≠ l.g → w'.heap[g]? = w.heap[g]?) (hs : w'.heap.size = w.heap.size) (e1 : w'.os = w.os) (e2 : w'.tape = w.tape) (e3 : w'.output = w.output) : Step ι h w ι (h.put b y) w' := by
  refine ⟨Io.le_refl ι, ⟨?_, ?_, ?_, ?_⟩, by omega, ?_, ?_, ?_, Nat.le_refl _, fun _ _ h => .inl h, ?_, e1, e2, e3⟩
  · intro c z hz ha
    rw [H.get_put] at hz
    split at hz
    · subst_vars
      obtain rfl := Option.some.inj hz
      exact ⟨l, o, hl, ho, hb⟩
    · obtain ⟨m, o', em, eo, hr⟩ := r.blk c z hz ha
      refine ⟨m, o', em, ?_, hr⟩
      rw [hk m.g (fun e => r.apart b c x z l m hx hz hwr ha ‹_› hl em e.symm)]
      exact eo
  · intro c d y1 y2 m n h1 h2 hw' ha hne em en
    rw [H.get_put] at h1 h2
    by_cases hc : b = c
    · subst hc
      rw [if_neg hne] at h2
      exact r.apart b d x y2 m n hx h2 hwr ha hne em en
    · rw [if_neg hc] at h1
      by_cases hd : b = d
      · subst hd
        exact r.apart c b y1 x m n h1 hx hw' (Blk.wr_alive hwr) hne em en
      · rw [if_neg hd] at h2
        exact r.apart c d y1 y2 m n h1 h2 hw' ha hne em en
  · exact fun c m e => r.fresh c m e
  · intro c z hz
    rw [H.get_put] at hz
    split at hz
    · subst_vars; exact r.fresh _ _ hl
    · exact r.dom c z hz
  · intro g hg hn
    exact hk g (fun e => hn ⟨b, x, l, hx, hwr, hl, e.symm⟩)
  · rintro g ⟨c, z, m, hz, hw', em, rfl⟩
    rw [H.get_put] at hz
    split at hz
    · subst_vars; exact .inl ⟨_, x, m, hx, hwr, em, rfl⟩
    · exact .inl ⟨c, z, m, hz, hw', em, rfl⟩
  · rintro g ⟨c, z, m, hz, ha', em, rfl⟩
    rw [H.get_put] at hz
    split at hz
    · subst_vars; exact .inl ⟨_, x, m, hx, Blk.wr_alive hwr, em, rfl⟩
    · exact .inl ⟨c, z, m, hz, ha', em, rfl⟩
  · intro c cs hc
    rw [H.get_put, if_neg (fun e => by rw [← e, hx] at hc; obtain rfl := Option.some.inj hc; cases hwr)]
    exact hc
end Go.Am
namespace Go.Am

theorem Rel.kill {ι : Io} {h : H} {w : World} (r : Rel ι h w) (b : P) (hb : h.get b ≠ none) : Rel ι (h.put b (.dead [])) w := by
  refine ⟨?_, ?_, fun c m e => r.fresh c m e, ?_⟩
  · intro c z hz ha
    rw [H.get_put] at hz
    split at hz
    · obtain rfl := Option.some.inj hz; cases ha
    · exact r.blk c z hz ha
  · intro c d y1 y2 m n h1 h2 hw' ha hne em en
    rw [H.get_put] at h1 h2
    split at h1
    · obtain rfl := Option.some.inj h1; cases hw'
    · split at h2
      · obtain rfl := Option.some.inj h2; cases ha
      · exact r.apart c d y1 y2 m n h1 h2 hw' ha hne em en
  · intro c z hz
    rw [H.get_put] at hz
    by_cases hbc : b = c
    · rw [← hbc]
      cases hg : h.get b with
      | none => exact absurd hg hb
      | some y => exact r.dom b y hg
    · rw [if_neg hbc] at hz; exact r.dom c z hz
theorem Step.kill {ι : Io} {h : H} {w : World} (r : Rel ι h w) (b : P) {x : Blk} (hx : h.get b = some x) (hxa : x.alive = true) : Step ι h w ι (h.put b (.dead [])) w := by
  refine ⟨Io.le_refl ι, r.kill b (by rw [hx]; simp), Nat.le_refl _, fun _ _ _ => rfl, ?_, ?_, Nat.le_refl _, fun _ _ h => .inl h, ?_, rfl, rfl, rfl⟩
  · rintro g ⟨c, z, m, hz, hw', em, rfl⟩
    rw [H.get_put] at hz
    split at hz
    · obtain rfl := Option.some.inj hz; cases hw'
    · exact .inl ⟨c, z, m, hz, hw', em, rfl⟩
  · rintro g ⟨c, z, m, hz, hw', em, rfl⟩
    rw [H.get_put] at hz
    split at hz
    · obtain rfl := Option.some.inj hz; cases hw'
    · exact .inl ⟨c, z, m, hz, hw', em, rfl⟩
  · intro c cs hc
    rw [H.get_put, if_neg (fun e => by rw [← e, hx] at hc; obtain rfl := Option.some.inj hc; cases hxa)]
    exact hc
/-- a block becomes one that is only read -/
theorem Step.froze {ι : Io} {h : H} {w w' : World} (r : Rel ι h w) {b : P} {x y : Blk} {l : Loc} {o : Obj} (hx : h.get b = some x) (hwr : x.wr = true) (hy : y.alive = true) (hyw : y.wr = false) (hl : ι b = some l) (hb : BlkR ι l y o) (ho : w'.heap[l.g]? = some o)
    (hk : ∀ g, g ≠ l.g → w'.heap[g]? = w.heap[g]?) (hs : w'.heap.size = w.heap.size) (e1 : w'.os = w.os) (e2 : w'.tape = w.tape) (e3 : w'.output = w.output) : Step ι h w ι (h.put b y) w' :=
  Step.put r hx hwr hy hl hb ho hk hs e1 e2 e3
/-- an append within a capacity that was not known: the elements get a new abstract block in the same concrete one -/
theorem Step.move {ι : Io} {h : H} {w w' : World} (r : Rel ι h w) {b : P} {x y : Blk} {l m : Loc} {o : Obj} (hx : h.get b = some x) (hwr : x.wr = true) (hy : y.alive = true) (hl : ι b = some l) (hm : m.g = l.g) (hb : BlkR (ι.add h.next m) m y o) (ho : w'.heap[l.g]? = some o)
    (hk : ∀ g, g ≠ l.g → w'.heap[g]? = w.heap[g]?) (hs : w'.heap.size = w.heap.size) (e1 : w'.os = w.os) (e2 : w'.tape = w.tape) (e3 : w'.output = w.output) :
    Step ι h w (ι.add h.next m) ((h.put b (.dead [])).alloc y) w' := by
  have hext := Io.le_add r m
  have hold : ∀ b, b.num < h.next.num → ι.add h.next m b = ι b := fun b hb => if_neg (fun e => by rw [e] at hb; omega)
  have hnext : (h.put b (.dead [])).next = h.next := rfl
  refine ⟨hext, ⟨?_, ?_, ?_, ?_⟩, by omega, ?_, ?_, ?_, by rw [H.next_alloc, hnext]; omega, ?_, ?_, e1, e2, e3⟩
  · intro c z hz ha
    rw [H.get_alloc, hnext, H.get_put] at hz
    by_cases hc : h.next = c
    · subst hc
      rw [if_pos rfl] at hz
      obtain rfl := Option.some.inj hz
      exact ⟨m, o, Io.add_same _ _ _, by rw [hm]; exact ho, hb⟩
    · rw [if_neg hc] at hz
      split at hz
      · obtain rfl := Option.some.inj hz; cases ha
      · obtain ⟨n, o', en, eo, hr⟩ := r.blk c z hz ha
        exact ⟨n, o', hext _ _ en, by rw [hk n.g (fun e => r.apart b c x z l n hx hz hwr ha ‹_› hl en e.symm)]; exact eo, hr.mono hext⟩
  · intro c d y1 y2 p q h1 h2 hw' ha hne em en
    rw [H.get_alloc, hnext, H.get_put] at h1 h2
    by_cases hc : h.next = c
    · subst hc
      rw [if_neg hne] at h2
      rw [Io.add_same] at em
      obtain rfl := Option.some.inj em
      split at h2
      · obtain rfl := Option.some.inj h2; cases ha
      · rw [hold d (r.dom d y2 h2)] at en
        rw [hm]
        exact r.apart b d x y2 l q hx h2 hwr ha ‹_› hl en
    · rw [if_neg hc] at h1
      split at h1
      · obtain rfl := Option.some.inj h1; cases hw'
      · rw [hold c (r.dom c y1 h1)] at em
        by_cases hd : h.next = d
        · subst hd
          rw [Io.add_same] at en
          obtain rfl := Option.some.inj en
          rw [hm]
          exact r.apart c b y1 x p l h1 hx hw' (Blk.wr_alive hwr) (fun e => ‹¬ b = c› e.symm) em hl
        · rw [if_neg hd] at h2
          split at h2
          · obtain rfl := Option.some.inj h2; cases ha
          · rw [hold d (r.dom d y2 h2)] at en
            exact r.apart c d y1 y2 p q h1 h2 hw' ha hne em en
  · intro c p ep
    rw [H.next_alloc, hnext]
    by_cases hc : c = h.next
    · subst hc; omega
    · unfold Io.add at ep
      rw [if_neg hc] at ep
      have := r.fresh c p ep; omega
  · intro c z hz
    rw [H.next_alloc, hnext]
    rw [H.get_alloc, hnext, H.get_put] at hz
    by_cases hc : h.next = c
    · subst hc; omega
    · rw [if_neg hc] at hz
      split at hz
      · subst_vars; have := r.fresh _ _ hl; omega
      · have := r.dom c z hz; omega
  · intro g _ hn
    exact hk g (fun e => hn ⟨b, x, l, hx, hwr, hl, e.symm⟩)
  · rintro g ⟨c, z, p, hz, hw', ep, rfl⟩
    rw [H.get_alloc, hnext, H.get_put] at hz
    by_cases hc : h.next = c
    · subst hc
      rw [Io.add_same] at ep
      obtain rfl := Option.some.inj ep
      exact .inl ⟨b, x, l, hx, hwr, hl, hm.symm⟩
    · rw [if_neg hc] at hz
      split at hz
      · obtain rfl := Option.some.inj hz; cases hw'
      · rw [hold c (r.dom c z hz)] at ep
        exact .inl ⟨c, z, p, hz, hw', ep, rfl⟩
  · rintro g ⟨c, z, p, hz, hw', ep, rfl⟩
    rw [H.get_alloc, hnext, H.get_put] at hz
    by_cases hc : h.next = c
    · subst hc
      rw [Io.add_same] at ep
      obtain rfl := Option.some.inj ep
      exact .inl ⟨b, x, l, hx, Blk.wr_alive hwr, hl, hm.symm⟩
    · rw [if_neg hc] at hz
      split at hz
      · obtain rfl := Option.some.inj hz; cases hw'
      · rw [hold c (r.dom c z hz)] at ep
        exact .inl ⟨c, z, p, hz, hw', ep, rfl⟩
  · intro c p ep
    by_cases hc : c = h.next
    · subst hc; exact .inr (Nat.le_refl _)
    · unfold Io.add at ep
      rw [if_neg hc] at ep
      exact .inl ep
  · intro c cs hc
    rw [H.get_alloc, hnext, H.get_put, if_neg (fun e => by have := r.dom c _ hc; rw [← e] at this; omega), if_neg (fun e => by rw [← e, hx] at hc; obtain rfl := Option.some.inj hc; cases hwr)]
    exact hc

/-! cells of a block -/
theorem H.cells_some {h : H} {b : P} {cs : List V} (e : h.cells b = some cs) : ∃ ro, h.get b = some (.cells cs ro) := by
  unfold H.cells at e
  cases hb : h.get b with
  | none => rw [hb] at e; cases e
  | some x =>
    rw [hb] at e
    cases x with
    | cells cs' ro => have e : some cs' = some cs := e; obtain rfl := Option.some.inj e; exact ⟨ro, rfl⟩
    | dead _ => cases e
    | map _ _ => cases e
    | siter _ _ => cases e
    | miter _ _ _ _ => cases e
theorem H.wcells_some {h : H} {b : P} {cs : List V} (e : h.wcells b = some cs) : h.get b = some (.cells cs false) := by
  unfold H.wcells at e
  cases hb : h.get b with
  | none => rw [hb] at e; cases e
  | some x =>
    rw [hb] at e
    cases x with
    | cells cs' ro => cases ro with
      | false => have e : some cs' = some cs := e; obtain rfl := Option.some.inj e; rfl
      | true => cases e
    | dead _ => cases e
    | map _ _ => cases e
    | siter _ _ => cases e
    | miter _ _ _ _ => cases e
theorem H.read_some {h : H} {b : P} {o n : Nat} {vs : List V} (e : h.read b o n = some vs) : ∃ cs, h.cells b = some cs ∧ o + n ≤ cs.length + (if n = 0 then o else 0) ∧ n ≤ (cs.drop o).length ∧ vs = (cs.drop o).take n := by
  unfold H.read at e
  cases hc : h.cells b with
  | none => rw [hc] at e; cases e
  | some cs =>
    rw [hc] at e
    have e : takeN n (dropN o cs) = some vs := e
    rw [dropN_eq] at e
    obtain ⟨h1, h2⟩ := takeN_some e
    refine ⟨cs, rfl, ?_, h1, h2⟩
    simp at h1
    split <;> omega
theorem H.write_some {h h' : H} {b : P} {o : Nat} {vs : List V} (e : h.write b o vs = some h') : ∃ cs cs', h.get b = some (.cells cs false) ∧ putAt o vs cs = some cs' ∧ h' = h.put b (.cells cs' false) := by
  unfold H.write at e
  cases hc : h.wcells b with
  | none => rw [hc] at e; cases e
  | some cs =>
    rw [hc] at e
    have e : Option.casesOn (motive := fun _ => Option H) (putAt o vs cs) none (fun cs => some (h.put b (.cells cs false))) = some h' := e
    cases hp : putAt o vs cs with
    | none => rw [hp] at e; cases e
    | some cs' => rw [hp] at e; exact ⟨cs, cs', H.wcells_some hc, hp, (Option.some.inj e).symm⟩

theorem cell_at {w : World} {g : Nat} {cur : Array Value} {e : TypeId} {fr : Nat × Nat} (h : w.heap[g]? = some (.cells cur e fr)) (i : Nat) : w.cell? ⟨g, i, none⟩ = cur[i]? := by simp [World.cell?, h]
theorem frozen_at {w : World} {g : Nat} {cur : Array Value} {e : TypeId} {fr : Nat × Nat} (h : w.heap[g]? = some (.cells cur e fr)) (i : Nat) : w.frozen? ⟨g, i, none⟩ = (decide (fr.1 ≤ i) && decide (i < fr.2)) := by
  obtain ⟨a, b⟩ := fr
  simp [World.frozen?, h]

/-- what an abstract row says of the model's cells -/
theorem Rel.row {ι : Io} {h : H} {w : World} (r : Rel ι h w) {b : P} {cs : List V} {ro : Bool} (hb : h.get b = some (.cells cs ro)) :
    ∃ l cur fr, ι b = some l ∧ w.heap[l.g]? = some (.cells cur l.e fr) ∧ cur.size = l.tot ∧ l.d + cs.length ≤ l.tot ∧ (ro = false → ∀ j, l.d + j < l.tot → ¬ (fr.1 ≤ l.d + j ∧ l.d + j < fr.2)) ∧
      ∀ (j : Nat) (v : V), cs[j]? = some v → ∃ v', cur[l.d + j]? = some v' ∧ VR ι v v' ∧ v'.oneCell' = true := by
  obtain ⟨l, o, hl, ho, hr⟩ := r.blk b _ hb rfl
  cases hr with
  | cells a b c d => exact ⟨l, _, _, hl, ho, a, b, c, d⟩

/-- reading cells -/
theorem Rel.read {ι : Io} {h : H} {w : World} (r : Rel ι h w) {b : P} {o n : Nat} {vs : List V} {l : Loc} (e : h.read b o n = some vs) (hl : ι b = some l) :
    ∃ vs' : List Value, CRs ι vs vs' ∧ vs'.length = n ∧ ∀ j u, vs'[j]? = some u → w.cell? ⟨l.g, l.d + o + j, none⟩ = some u := by
  obtain ⟨cs, hc, _, hn, rfl⟩ := H.read_some e
  obtain ⟨ro, hb⟩ := H.cells_some hc
  obtain ⟨l', cur, fr, hl', hg, hs, hd, _, hv⟩ := r.row hb
  rw [hl] at hl'
  obtain rfl := Option.some.inj hl'
  simp only [List.length_drop] at hn
  have key : ∀ j, j < n → ∃ v', cur[l.d + (o + j)]? = some v' ∧ ∃ v, cs[o + j]? = some v ∧ VR ι v v' ∧ v'.oneCell' = true := by
    intro j hj
    have hlt : o + j < cs.length := by omega
    obtain ⟨v', h1, h2, h3⟩ := hv (o + j) cs[o + j] (List.getElem?_eq_getElem hlt)
    exact ⟨v', h1, _, List.getElem?_eq_getElem hlt, h2, h3⟩
  refine ⟨(List.range n).map fun j => (cur[l.d + (o + j)]?).getD undef, ⟨⟨by simp; omega, ?_⟩, ?_⟩, by simp, ?_⟩
  · intro i v v' h1 h2
    rw [List.getElem?_take] at h1
    split at h1
    · rename_i hi
      rw [List.getElem?_drop] at h1
      simp [hi] at h2
      obtain ⟨u, e1, v2, e2, e3, _⟩ := key i hi
      rw [e2] at h1
      obtain rfl := Option.some.inj h1
      rw [e1] at h2
      simp at h2
      subst h2
      exact e3
    · cases h1
  · intro v' hv'
    obtain ⟨j, hj, rfl⟩ := List.mem_map.1 hv'
    obtain ⟨u, e1, _, _, _, e4⟩ := key j (List.mem_range.1 hj)
    rw [e1]
    exact e4
  · intro j u hu
    have hj : j < n := by have := (List.getElem?_eq_some_iff.1 hu).1; simpa using this
    simp [hj] at hu
    obtain ⟨u', e1, _⟩ := key j hj
    rw [e1] at hu
    simp at hu
    subst hu
    rw [cell_at hg, Nat.add_assoc]
    exact e1

/-! writing cells -/
theorem setCells_at (g : Nat) (e : TypeId) (fr : Nat × Nat) : ∀ (vs : List Value) (o : Nat) (w : World) (cur : Array Value), w.heap[g]? = some (.cells cur e fr) → o + vs.length ≤ cur.size →
    ∃ cur' : Array Value, (w.setCells g o vs).heap[g]? = some (.cells cur' e fr) ∧ cur'.size = cur.size ∧ ∀ j, cur'[j]? = if o ≤ j ∧ j < o + vs.length then vs[j - o]? else cur[j]? := by
  intro vs
  induction vs with
  | nil => intro o w cur hg _; exact ⟨cur, hg, rfl, fun j => by rw [if_neg (by rintro ⟨h1, h2⟩; simp at h2; omega)]⟩
  | cons v t ih =>
    intro o w cur hg hl
    simp only [List.length_cons] at hl
    have h1 : (w.setCell ⟨g, o, none⟩ v).heap[g]? = some (.cells (cur.setIfInBounds o v) e fr) := by
      have hlt := (Array.getElem?_eq_some_iff.1 hg).1
      have h' : w.heap[g] = .cells cur e fr := by simpa [Array.getElem?_eq_getElem hlt] using hg
      show (w.heap.modify g _)[g]? = _
      rw [Array.getElem?_eq_getElem (by simpa using hlt), Array.getElem_modify_self, h']
      rfl
    obtain ⟨cur', e1, e2, e3⟩ := ih (o + 1) _ _ h1 (by simp; omega)
    refine ⟨cur', e1, by rw [e2]; simp, fun j => ?_⟩
    rw [e3]
    by_cases hj : j = o
    · subst hj
      rw [if_neg (by omega), if_pos ⟨Nat.le_refl _, by simp⟩]
      simp [show j < cur.size by omega]
    · by_cases hj2 : o + 1 ≤ j ∧ j < o + 1 + t.length
      · rw [if_pos hj2, if_pos ⟨by omega, by simp; omega⟩, show j - o = (j - (o + 1)) + 1 by omega]
        simp
      · rw [if_neg hj2, if_neg (by simp; omega), Array.getElem?_setIfInBounds_ne (fun e => hj e.symm)]
theorem setCells_other (g k : Nat) (hk : k ≠ g) : ∀ (vs : List Value) (o : Nat) (w : World), (w.setCells g o vs).heap[k]? = w.heap[k]? := by
  intro vs
  induction vs with
  | nil => intro o w; rfl
  | cons v t ih => intro o w; show ((w.setCell ⟨g, o, none⟩ v).setCells g (o + 1) t).heap[k]? = _; rw [ih]; exact heap_setCell_other w _ k v hk
theorem setCells_size (g : Nat) : ∀ (vs : List Value) (o : Nat) (w : World), (w.setCells g o vs).heap.size = w.heap.size ∧ (w.setCells g o vs).os = w.os ∧ (w.setCells g o vs).tape = w.tape ∧ (w.setCells g o vs).output = w.output := by
  intro vs
  induction vs with
  | nil => intro o w; exact ⟨rfl, rfl, rfl, rfl⟩
  | cons v t ih => intro o w; obtain ⟨a, b, c, d⟩ := ih (o + 1) (w.setCell ⟨g, o, none⟩ v); exact ⟨a.trans (by simp), b, c, d⟩

/-- the store of cells, in the model and in the machine -/
theorem Rel.write {P' : Program} {ι : Io} {h h' : H} {w : World} (r : Rel ι h w) {b : P} {o : Nat} {vs : List V} {vs' : List Value} {l : Loc} (e : h.write b o vs = some h') (hl : ι b = some l) (hv : CRs ι vs vs') :
    (storeCells ⟨l.g, l.d + o, none⟩ vs').run P' w = .ok () (w.setCells l.g (l.d + o) vs') ∧ Step ι h w ι h' (w.setCells l.g (l.d + o) vs') := by
  obtain ⟨cs, cs', hb, hp, rfl⟩ := H.write_some e
  obtain ⟨hle, _⟩ := putAt_some hp
  obtain ⟨l', cur, fr, hl', hg, hs, hd, hfz, hval⟩ := r.row hb
  rw [hl] at hl'
  obtain rfl := Option.some.inj hl'
  have hlen := hv.1.1
  obtain ⟨cur', c1, c2, c3⟩ := setCells_at l.g l.e fr vs' (l.d + o) w cur hg (by omega)
  obtain ⟨s1, s2, s3, s4⟩ := setCells_size l.g vs' (l.d + o) w
  refine ⟨?_, Step.put r hb rfl rfl hl (o := .cells cur' l.e fr) ?_ c1 (fun g hg' => setCells_other l.g g hg' _ _ _) s1 s2 s3 s4⟩
  · have := run_storeCells_cells (P := P') l.g (l.d + o) vs' 0 w (fun j hj => ?_) (fun j hj => ?_) hv.2
    · simpa using this
    · rw [cell_at hg]
      simp
      omega
    · rw [frozen_at hg]
      have := hfz rfl (o + j) (by omega)
      simp only [Nat.add_zero, Bool.and_eq_false_iff, decide_eq_false_iff_not]
      omega
  · refine .cells (by omega) (by rw [putAt_length hp]; omega) (fun _ j hj => hfz rfl j hj) ?_
    intro j v hj
    rw [putAt_get hp] at hj
    rw [c3]
    split at hj
    · rename_i hin
      rw [if_pos ⟨by omega, by omega⟩]
      obtain ⟨v', e1, e2⟩ := hv.1.get hj
      refine ⟨v', ?_, e2, hv.2 v' (List.mem_of_getElem? e1)⟩
      rw [show l.d + j - (l.d + o) = j - o by omega]
      exact e1
    · rename_i hin
      rw [if_neg (by omega)]
      exact hval j v hj
end Go.Am
