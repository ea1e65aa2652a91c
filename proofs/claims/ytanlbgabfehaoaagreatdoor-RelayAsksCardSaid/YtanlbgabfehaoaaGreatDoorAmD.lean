/- The checks of operations; regions in their order; code and calls. -/
import Derived.Test.YtanlbgabfehaoaaGreatDoorAmC
import Derived.Test.YtanlbgabfehaoaaGreatDoorAmB
import Derived.Orders
namespace Go.Am

def callB (o : Oper) : Option (Builtin × List Operand × List TypeId) := match o.op with
  | .call c => (match c.callee with | .builtin b => some (b, c.args.toList, c.argTypes.toList) | _ => none)
  | _ => none
theorem callB_spec {o : Oper} {b : Builtin} {xs : List Operand} {ts : List TypeId} (h : callB o = some (b, xs, ts)) : o.op = .call { callee := .builtin b, args := xs.toArray, argTypes := ts.toArray } := by
  unfold callB at h
  split at h
  · rename_i c hop
    split at h
    · rename_i b' hc
      obtain ⟨cal, as, ats⟩ := c
      dsimp only at h hc
      subst hc
      simp only [Option.some.injEq, Prod.mk.injEq] at h
      obtain ⟨rfl, rfl, rfl⟩ := h
      rw [hop]
    · cases h
  · cases h
def aopB : AOp → BinOp → Bool
  | .add, .add | .sub, .sub | .mul, .mul | .quo, .quo | .rem, .rem => true
  | _, _ => false
def bopB : BOp → BinOp → Bool
  | .and, .and | .or, .or | .xor, .xor | .andNot, .andNot => true
  | _, _ => false
def copOk : COp → BinOp → Bool
  | .eq, .eql | .ne, .neq | .lt, .lss | .le, .leq | .gt, .gtr | .ge, .geq => true
  | _, _ => false

section
variable (Pg : Program) (n : Nm) (o : Oper)
def kMv (x : X) : Bool := match o.op with | .move y => okX n y x | .assign y => okX n y x | _ => false
def kPick (c x y : X) : Bool := match o.op with | .pick c' x' y' => okX n c' c && okX n x' x && okX n y' y | _ => false
def kAlloc (z : List V) : Bool := match o.op with | .alloc t => (match Pg.info? t with | some i => zeroOk i.zero z | none => false) | _ => false
def kBox (x : X) : Bool := match o.op with | .box _ y => okX n y x | _ => false
def placesOf (fields : Array Field) : Option (List (Nat × Nat)) := fields.toList.mapM (fun f => (Pg.info? f.type).map fun i => (f.offset, i.size))
def kBuild (z : List V) (ps : List (Nat × Nat × X)) : Bool := match o.op with
  | .build t ps' => (match Pg.info? t with
    | some it => (match it.zero with
      | some zv => con1s zv.cells.toList z && (match Pg.underlying t with
        | some (.array _ e) => (match Pg.info? e with | some ie => okParts n (fun i => some (i * ie.size, ie.size)) ps'.toList ps | none => false)
        | some (.struct fs) => (match placesOf Pg fs with | some pl => okParts n (fun i => pl.toArray[i]?) ps'.toList ps | none => false)
        | _ => false)
      | none => false)
    | none => false)
  | _ => false
def kBslice (es m : Nat) (z : List V) (ps : List (Nat × Nat × X)) : Bool := match o.op with
  | .buildSlice t m' ps' => Nat.beq m m' && Nat.ble (m * es) 16777216 && Nat.ble m maxLen && (match Pg.underlying t with
    | some (.slice e) => (match Pg.info? e with
      | some ie => (match ie.zero with
        | some zv => Nat.beq ie.size es && con1s ((Array.range (m * es)).map (zv.cells[· % zv.cells.size]!)).toList z && okParts n (fun i => some (i * es, es)) ps'.toList ps
        | none => false)
      | none => false)
    | _ => false)
  | _ => false
def kLd (x : X) : Bool := match o.op with | .load t y => (match Pg.underlying t with | some d => !(aggD d) && okX n y x | none => false) | _ => false
def kLdn (k : Nat) (x : X) : Bool := match o.op with
  | .load t y => (match Pg.underlying t with | some d => aggD d && okX n y x && (match Pg.info? t with | some i => Nat.beq i.size k | none => false) | none => false)
  | _ => false
def kSt (k : Nat) (x y : X) : Bool := match o.op with | .store t x' y' => okX n x' x && okX n y' y && (match Pg.info? t with | some i => Nat.beq i.size k | none => false) | _ => false
def kNck (x : X) : Bool := match o.op with | .nilCheck y => okX n y x | _ => false
def kAr (op : AOp) (x y : X) : Bool := match o.op with | .binOp b _ x' y' _ => aopB op b && okX n x' x && okX n y' y | _ => false
def kCop (op : COp) (x y : X) : Bool := match o.op with | .binOp b _ x' y' _ => copOk op b && okX n x' x && okX n y' y | _ => false
def kBop (op : BOp) (x y : X) : Bool := match o.op with | .binOp b _ x' y' _ => bopB op b && okX n x' x && okX n y' y | _ => false
def kShl (x y : X) : Bool := match o.op with | .binOp .shl _ x' y' _ => okX n x' x && okX n y' y | _ => false
def kShr (x y : X) : Bool := match o.op with | .binOp .shr _ x' y' _ => okX n x' x && okX n y' y | _ => false
def kSadd (x y : X) : Bool := match o.op with | .binOp .add _ x' y' _ => okX n x' x && okX n y' y | _ => false
def kEqv (neg : Bool) (k : EqK) (x y : X) : Bool := match o.op with
  | .binOp .eql t x' y' _ => !neg && eqTy Pg t (isConO x' || isConO y') k && okX n x' x && okX n y' y
  | .binOp .neq t x' y' _ => neg && eqTy Pg t (isConO x' || isConO y') k && okX n x' x && okX n y' y
  | _ => false
def kNeg (x : X) : Bool := match o.op with | .unOp .neg _ y => okX n y x | _ => false
def kNot (x : X) : Bool := match o.op with | .unOp .not _ y => okX n y x | _ => false
def kXor (x : X) : Bool := match o.op with | .unOp .xor _ y => okX n y x | _ => false
def kI2i (k : IntKind) (x : X) : Bool := match o.op with | .convert s t y => okX n y x && (Pg.underlying s).isSome && (match Pg.underlying t with | some (.int k') => kEq k' k | _ => false) | _ => false
def kI2s (x : X) : Bool := match o.op with | .convert s t y => okX n y x && (Pg.underlying s).isSome && (match Pg.underlying t with | some .string => true | _ => false) | _ => false
def isStr (t : TypeId) : Bool := match Pg.underlying t with | some .string => true | _ => false
def isBytes (t : TypeId) : Bool := match Pg.underlying t with | some (.slice e) => (match Pg.underlying e with | some (.int .u8) => true | _ => false) | _ => false
def kS2s (x : X) : Bool := match o.op with | .convert s t y => okX n y x && isStr Pg s && isStr Pg t | _ => false
def kS2b (x : X) : Bool := match o.op with | .convert s t y => okX n y x && isStr Pg s && isBytes Pg t | _ => false
def kB2s (x : X) : Bool := match o.op with | .convert s t y => okX n y x && isBytes Pg s && isStr Pg t | _ => false
def kMkif (t : Nat) (x : X) : Bool := match o.op with | .makeInterface t' y => Nat.beq t t' && okX n y x && (match Pg.underlying t with | some d => !(ifaceD d) | none => false) | _ => false
def kMkfn (f : P) (xs cs : List X) : Bool := match o.op with | .makeFunc (.func f') p c => Nat.beq f.num f' && okXs n p.toList xs && okXs n c.toList cs | _ => false
def kMkmap : Bool := match o.op with
  | .makeMap t r => (match r with | none => true | some (.const (.int _ _)) => (match Pg.underlying t with | some (.map _ _) => true | _ => false) | _ => false)
  | _ => false
def kMksl (es bytes : Nat) (z : List V) (l c : X) : Bool := match o.op with
  | .makeSlice t l' c' => okX n l' l && okX n c' c && (match Pg.underlying t with
    | some (.slice e) => (match Pg.info? e with
      | some ie => (match ie.zero with | some zv => Nat.beq ie.size es && Nat.beq ie.bytes bytes && Nat.beq zv.cells.size es && con1s zv.cells.toList z | none => false)
      | none => false)
    | _ => false)
  | _ => false
def kSls (x : X) (lo hi : Option X) : Bool := match o.op with | .slice t x' lo' hi' none => isStr Pg t && okX n x' x && okO n lo' lo && okO n hi' hi | _ => false
def kSlc (es : Nat) (x : X) (lo hi mx : Option X) : Bool := match o.op with
  | .slice t x' lo' hi' mx' => okX n x' x && okO n lo' lo && okO n hi' hi && okO n mx' mx && (!(mx.isSome) || hi.isSome) && !(Nat.beq es 0) && (match Pg.underlying t with
    | some (.slice e) => (match Pg.info? e with | some ie => Nat.beq ie.size es | none => false)
    | _ => false)
  | _ => false
def kSlarr (es m : Nat) (x : X) (lo hi mx : Option X) : Bool := match o.op with
  | .slice t x' lo' hi' mx' => okX n x' x && okO n lo' lo && okO n hi' hi && okO n mx' mx && (!(mx.isSome) || hi.isSome) && !(Nat.beq es 0) && Nat.ble m maxLen && (match Pg.underlying t with
    | some (.array m' e) => Nat.beq m m' && (match Pg.info? e with | some ie => Nat.beq ie.size es | none => false)
    | _ => false)
  | _ => false
def kFa (off : Nat) (x : X) : Bool := match o.op with
  | .fieldAddr t y i => okX n y x && (match Pg.underlying t with
    | some (.struct fs) => (match fs[i]? with | some f => Nat.beq f.offset off && !(Nat.beq (Pg.cellsOf f.type) 0) | none => false)
    | _ => false)
  | _ => false
def kFld (off : Nat) (x : X) : Bool := match o.op with
  | .field t y i => okX n y x && (match Pg.underlying t with
    | some (.struct fs) => (match fs[i]? with | some f => Nat.beq f.offset off && (match Pg.underlying f.type with | some d => !(aggD d) | none => false) | none => false)
    | _ => false)
  | _ => false
def kFldn (off k : Nat) (x : X) : Bool := match o.op with
  | .field t y i => okX n y x && (match Pg.underlying t with
    | some (.struct fs) => (match fs[i]? with
      | some f => Nat.beq f.offset off && (match Pg.underlying f.type with | some d => aggD d | none => false) && (match Pg.info? f.type with | some i => Nat.beq i.size k | none => false)
      | none => false)
    | _ => false)
  | _ => false
def kIxa (es : Nat) (x i : X) : Bool := match o.op with
  | .indexAddr t x' i' => okX n x' x && okX n i' i && (match Pg.underlying t with | some (.slice e) => (match Pg.info? e with | some ie => Nat.beq ie.size es | none => false) | _ => false)
  | _ => false
def kIxarr (es m : Nat) (x i : X) : Bool := match o.op with
  | .indexAddr t x' i' => okX n x' x && okX n i' i && (match Pg.underlying t with | some (.array m' e) => Nat.beq m m' && (match Pg.info? e with | some ie => Nat.beq ie.size es | none => false) | _ => false)
  | _ => false
def kIxs (x i : X) : Bool := match o.op with | .index t x' i' => okX n x' x && okX n i' i && isStr Pg t | _ => false
def kIxag (es m : Nat) (agg : Bool) (x i : X) : Bool := match o.op with
  | .index t x' i' => okX n x' x && okX n i' i && (match Pg.underlying t with
    | some (.array m' e) => Nat.beq m m' && (match Pg.info? e with | some ie => Nat.beq ie.size es | none => false) && (match Pg.underlying e with | some d => decide (aggD d = agg) | none => false)
    | _ => false)
  | _ => false
def kAsr (t : Nat) (ok : Bool) (z : V) (x : X) : Bool := match o.op with
  | .typeAssert y _ t' ok' => okX n y x && Nat.beq t t' && decide (ok = ok') && (match Pg.underlying t with | some d => !(ifaceD d) | none => false) && (match Pg.info? t with | some i => (match i.zero with | some zv => conOk zv z | none => false) | none => false)
  | _ => false
def kExt (i : Nat) (x : X) : Bool := match o.op with | .extract y i' => okX n y x && Nat.beq i i' | _ => false
def kLenc (m : Nat) : Bool := match callB o with
  | some (.len, [_], [t]) => (match Pg.underlying t with
    | some (.array m' _) => Nat.beq m m'
    | some (.pointer p) => (match Pg.underlying p with | some (.array m' _) => Nat.beq m m' | _ => false)
    | _ => false)
  | _ => false
def kLenS (x : X) : Bool := match callB o with | some (.len, [y], [t]) => okX n y x && isStr Pg t | _ => false
def kLenL (x : X) : Bool := match callB o with | some (.len, [y], [t]) => okX n y x && (match Pg.underlying t with | some (.slice _) => true | _ => false) | _ => false
def kLenM (x : X) : Bool := match callB o with | some (.len, [y], [t]) => okX n y x && (match Pg.underlying t with | some (.map _ _) => true | _ => false) | _ => false
def kAppe (es bytes : Nat) (s x : X) : Bool := match callB o with
  | some (.append, [s', x'], [t, t2]) => okX n s' s && okX n x' x && !(Nat.beq es 0) && !(Nat.beq bytes 0) && (match Pg.underlying t2 with | some .string => true | some (.slice _) => true | _ => false) && (match Pg.underlying t with
    | some (.slice e) => (match Pg.info? e with | some i => (match i.zero with | some zv => Nat.beq i.size es && Nat.beq i.bytes bytes && Nat.beq zv.cells.size es | none => false) | none => false)
    | _ => false)
  | _ => false
def kMx (xs : List X) : Bool := match callB o with | some (.max, ys, _) => okXs n ys xs | _ => false
def kMn (xs : List X) : Bool := match callB o with | some (.min, ys, _) => okXs n ys xs | _ => false
def kLk (kk : KyK) (ok : Bool) (z : V) (m k : X) : Bool := match kk, o.op with
  | .sc s, .lookup t m' k' ok' => okX n m' m && okX n k' k && decide (ok = ok') && (match Pg.underlying t with
    | some (.map kt et) => skTy Pg kt s && (match Pg.info? et with | some i => (match i.zero with | some zv => conOk zv z | none => false) | none => false)
    | _ => false)
  | _, _ => false
def kMset (kk : KyK) (m k x : X) : Bool := match kk, o.op with
  | .sc s, .mapUpdate t m' k' x' => okX n m' m && okX n k' k && okX n x' x && (match Pg.underlying t with | some (.map kt _) => skTy Pg kt s | _ => false)
  | .sc s, .insert t m' k' x' => okX n m' m && okX n k' k && okX n x' x && (match Pg.underlying t with | some (.map kt _) => skTy Pg kt s | _ => false)
  | _, _ => false
def kDel (kk : KyK) (m k : X) : Bool := match kk, callB o with
  | .sc s, some (.delete, [m', k'], t :: _) => okX n m' m && okX n k' k && (match Pg.underlying t with | some (.map kt _) => skTy Pg kt s | _ => false)
  | _, _ => false
def kCap (x : X) : Bool := match callB o with | some (.cap, [y], [t]) => okX n y x && (match Pg.underlying t with | some (.slice _) => true | _ => false) | _ => false
def kClr (z : List V) (x : X) : Bool := match callB o with
  | some (.clear, [y], [t]) => okX n y x && (match Pg.underlying t with
    | some (.slice e) => (match Pg.info? e with | some i => (match i.zero with | some zv => con1s zv.cells.toList z && !(Nat.beq zv.cells.size 0) | none => false) | none => false)
    | _ => false)
  | _ => false
def kRng (x : X) : Bool := match o.op with | .range t y => okX n y x && (match Pg.underlying t with | some (.map _ _) => true | _ => false) | _ => false
def kNxt (isStr : Bool) (x : X) : Bool := match o.op with | .next y s => okX n y x && !s && !isStr | _ => false
def kEnt (x : X) : Bool := match o.op with | .entry y => okX n y x | _ => false
def chk : C → Bool
  | .mv x => kMv n o x
  | .pick c x y => kPick n o c x y
  | .alloc z => kAlloc Pg o z
  | .box x => kBox n o x
  | .build z ps => kBuild Pg n o z ps
  | .bslice es m z ps => kBslice Pg n o es m z ps
  | .ld x => kLd Pg n o x
  | .ldn k x => kLdn Pg n o k x
  | .st k x y => kSt Pg n o k x y
  | .nck x => kNck n o x
  | .ar op _ x y => kAr n o op x y
  | .cmp op x y => kCop n o op x y
  | .bits op _ x y => kBop n o op x y
  | .shl _ x y => kShl n o x y
  | .shr _ x y => kShr n o x y
  | .sadd x y => kSadd n o x y
  | .scmp op x y => kCop n o op x y
  | .eqv neg k x y => kEqv Pg n o neg k x y
  | .neg _ x => kNeg n o x
  | .not x => kNot n o x
  | .xorU _ x => kXor n o x
  | .i2i k x => kI2i Pg n o k x
  | .i2s x => kI2s Pg n o x
  | .s2s x => kS2s Pg n o x
  | .s2b x => kS2b Pg n o x
  | .b2s x => kB2s Pg n o x
  | .mkif t x => kMkif Pg n o t x
  | .mkfn f xs cs => kMkfn n o f xs cs
  | .mkmap => kMkmap Pg o
  | .mksl es bytes z l c => kMksl Pg n o es bytes z l c
  | .sls x lo hi => kSls Pg n o x lo hi
  | .slc es x lo hi mx => kSlc Pg n o es x lo hi mx
  | .slarr es m x lo hi mx => kSlarr Pg n o es m x lo hi mx
  | .fa off x => kFa Pg n o off x
  | .fld off x => kFld Pg n o off x
  | .fldn off k x => kFldn Pg n o off k x
  | .ixa es x i => kIxa Pg n o es x i
  | .ixarr es m x i => kIxarr Pg n o es m x i
  | .ixs x i => kIxs Pg n o x i
  | .ixag es m agg x i => kIxag Pg n o es m agg x i
  | .asr t ok z x => kAsr Pg n o t ok z x
  | .ext i x => kExt n o i x
  | .lenc m => kLenc Pg o m
  | .lenS x => kLenS Pg n o x
  | .lenL x => kLenL Pg n o x
  | .lenM x => kLenM Pg n o x
  | .mx xs => kMx n o xs
  | .mn xs => kMn n o xs
  | .appe es bytes s x => kAppe Pg n o es bytes s x
  | .lk kk ok z m k => kLk Pg n o kk ok z m k
  | .mset kk m k x => kMset Pg n o kk m k x
  | .del kk m k => kDel Pg n o kk m k
  | .cap x => kCap Pg n o x
  | .clr z x => kClr Pg n o z x
  | .rng x => kRng Pg n o x
  | .nxt s x => kNxt n o s x
  | .ent x => kEnt n o x
  | _ => false
/-- the program's types -/
def tyOf (t : Nat) : Option TyInfo := match Pg.underlying t, Pg.info? t with | some u, some i => some ⟨u, i.size, i.bytes, i.zero⟩ | _, _ => none
theorem tyOf_ok : TyOk Pg (tyOf Pg) := by
  intro t x h
  unfold tyOf at h
  split at h
  · rename_i u i hu hi
    obtain rfl := Option.some.inj h
    exact ⟨hu, i, hi, rfl, rfl, rfl⟩
  · cases h
end
end Go.Am
namespace Go.Am

/-! ### outcomes -/
inductive RE where
  | norm
  | exit (id : Nat)
  | ret
inductive RO.Leaf : RO → RE → Fr → H → Prop where
  | norm (fr : Fr) (h : H) : RO.Leaf (.norm fr h) .norm fr h
  | exit (id : Nat) (fr : Fr) (h : H) : RO.Leaf (.exit id fr h) (.exit id) fr h
  | ret (fr : Fr) (h : H) : RO.Leaf (.ret fr h) .ret fr h
  | ask {n : Nat} {k : Nat → RO} {e : RE} {fr : Fr} {h : H} (i : Nat) : i < n → RO.Leaf (k i) e fr h → RO.Leaf (.ask n k) e fr h
def RO.safe : RO → Prop
  | .no => False
  | .ask n k => 0 < n ∧ ∀ i, i < n → (k i).safe
  | _ => True

theorem R.safe_leaf : ∀ {r : R}, r.safe → ∃ v h, r.Leaf v h
  | .ok v h, _ => ⟨v, h, .ok v h⟩
  | .ask n k, hs => let ⟨v, h, l⟩ := R.safe_leaf (hs.2 0 hs.1); ⟨v, h, .ask 0 hs.1 l⟩
  | .no, hs => hs.elim
theorem push_safe {k : St → Fr → H → RO} {st : St} {fr : Fr} : ∀ {r : R}, (push k st fr r).safe → r.safe ∧ ∀ v h, r.Leaf v h → (k (v :: st) fr h).safe
  | .no, hs => hs.elim
  | .ok v h, hs => ⟨trivial, fun v' h' l => by cases l; exact hs⟩
  | .ask n k', hs => by
    have hs : 0 < n ∧ ∀ i, i < n → (push k st fr (k' i)).safe := hs
    refine ⟨⟨hs.1, fun i hi => (push_safe (hs.2 i hi)).1⟩, fun v h l => ?_⟩
    cases l with
    | ask i hi l => exact (push_safe (hs.2 i hi)).2 v h l
theorem push_leaf {k : St → Fr → H → RO} {st : St} {fr : Fr} {r : R} {v : V} {h : H} {e : RE} {fr' : Fr} {h' : H} (l : r.Leaf v h) (l2 : (k (v :: st) fr h).Leaf e fr' h') : (push k st fr r).Leaf e fr' h' := by
  induction l with
  | ok => exact l2
  | ask i hi _ ih => exact .ask i hi (ih l2)
theorem after_safe {f : Fr → H → RO} : ∀ {r : RO}, (after r f).safe → r.safe ∧ ∀ fr h, r.Leaf .norm fr h → (f fr h).safe
  | .no, hs => hs.elim
  | .norm fr h, hs => ⟨trivial, fun fr' h' l => by cases l; exact hs⟩
  | .exit id fr h, _ => ⟨trivial, fun fr' h' l => by cases l⟩
  | .ret fr h, _ => ⟨trivial, fun fr' h' l => by cases l⟩
  | .ask n k', hs => by
    have hs : 0 < n ∧ ∀ i, i < n → (after (k' i) f).safe := hs
    refine ⟨⟨hs.1, fun i hi => (after_safe (hs.2 i hi)).1⟩, fun v h l => ?_⟩
    cases l with
    | ask i hi l => exact (after_safe (hs.2 i hi)).2 v h l
theorem after_leaf {f : Fr → H → RO} {r : RO} {e : RE} {fr : Fr} {h : H} {fr' : Fr} {h' : H} (l : r.Leaf .norm fr h) (l2 : (f fr h).Leaf e fr' h') : (after r f).Leaf e fr' h' := by
  generalize hn : RE.norm = n at l
  induction l with
  | norm => exact l2
  | exit => cases hn
  | ret => cases hn
  | ask i hi _ ih => exact .ask i hi (ih l2 hn)
theorem after_leaf' {f : Fr → H → RO} {r : RO} {e : RE} {fr : Fr} {h : H} (hn : e ≠ .norm) (l : r.Leaf e fr h) : (after r f).Leaf e fr h := by
  induction l with
  | norm => exact (hn rfl).elim
  | exit => exact .exit _ _ _
  | ret => exact .ret _ _
  | ask i hi _ ih => exact .ask i hi (ih hn)
theorem kBlock_safe {id : Nat} : ∀ {r : RO}, (kBlock id r).safe → r.safe
  | .no, hs => hs.elim
  | .norm _ _, _ => trivial
  | .exit _ _ _, _ => trivial
  | .ret _ _, _ => trivial
  | .ask n k', hs => ⟨hs.1, fun i hi => kBlock_safe (hs.2 i hi)⟩
def RE.inBlock (id : Nat) : RE → RE
  | .exit i => cond (Nat.beq i id) .norm (.exit i)
  | e => e
theorem kBlock_leaf {id : Nat} {r : RO} {e : RE} {fr : Fr} {h : H} (l : r.Leaf e fr h) : (kBlock id r).Leaf (e.inBlock id) fr h := by
  induction l with
  | norm => exact .norm _ _
  | exit i fr h =>
    show RO.Leaf (cond (Nat.beq i id) (.norm fr h) (.exit i fr h)) (cond (Nat.beq i id) .norm (.exit i)) fr h
    cases Nat.beq i id
    · exact .exit _ _ _
    · exact .norm _ _
  | ret => exact .ret _ _
  | ask i hi _ ih => exact .ask i hi ih
theorem endR_safe {res : List RV} : ∀ {r : RO}, (endR res r).safe → r.safe ∧ ∀ e fr h, r.Leaf e fr h → (e = .norm ∨ e = .ret) ∧ (retR fr h res).safe
  | .no, hs => hs.elim
  | .norm fr h, hs => ⟨trivial, fun e fr' h' l => by cases l; exact ⟨.inl rfl, hs⟩⟩
  | .exit id fr h, hs => hs.elim
  | .ret fr h, hs => ⟨trivial, fun e fr' h' l => by cases l; exact ⟨.inr rfl, hs⟩⟩
  | .ask n k', hs => by
    have hs : 0 < n ∧ ∀ i, i < n → (endR res (k' i)).safe := hs
    refine ⟨⟨hs.1, fun i hi => (endR_safe (hs.2 i hi)).1⟩, fun e v h l => ?_⟩
    cases l with
    | ask i hi l => exact (endR_safe (hs.2 i hi)).2 e v h l
theorem endR_leaf {res : List RV} {r : RO} {e : RE} {fr : Fr} {h : H} {v : V} {h' : H} (l : r.Leaf e fr h) (he : e = .norm ∨ e = .ret) (l2 : (retR fr h res).Leaf v h') : (endR res r).Leaf v h' := by
  induction l with
  | norm => exact l2
  | exit => rcases he with he | he <;> cases he
  | ret => exact l2
  | ask i hi _ ih => exact .ask i hi (ih he l2)

/-! ### the frame -/
def Nm.push (n : Nm) (d : Option Nat) : Nm := { n with names := d :: n.names, dirty := match d with | some t => cond (n.kept.contains t) (t :: n.dirty) n.dirty | none => n.dirty }
def Nm.keep (n : Nm) (p : Nat) : Nm := { n with dirty := n.dirty.filter (fun t => !(Nat.beq t p)) }
def Nm.base (n : Nm) : Nm := { n with names := [], dirty := [] }

theorem Act.put_getD {a : Act} {d : Option Tmp} {v : Value} {t : Nat} (h : d ≠ some t) : (a.put d v).tmps.getD t undef = a.tmps.getD t undef := by
  cases d with
  | none => rfl
  | some e =>
    have : e ≠ t := fun h' => h (by rw [h'])
    simp [Act.put, Array.getElem?_setIfInBounds_ne this]
theorem Act.put_same {a : Act} {t : Nat} {v : Value} (h : t < a.tmps.size) : (a.put (some t) v).tmps.getD t undef = v := by
  simp [Act.put, h]
theorem Act.put_size {a : Act} {d : Option Tmp} {v : Value} : (a.put d v).tmps.size = a.tmps.size := by
  cases d <;> simp [Act.put]

theorem ER.push {n : Nm} {ι : Io} {st : St} {fr : Fr} {a : Act} (e : ER n ι st fr a) {d : Option Tmp} {v : V} {v' : Value} (hd : ∀ t, d = some t → t < n.nt) (hv : VR ι v v') : ER (n.push d) ι (v :: st) fr (a.put d v') := by
  refine ⟨by simp [Nm.push, e.len], ?_, ?_, e.glob, Act.put_size.trans e.size⟩
  · intro i u t h1 h2 h3
    cases i with
    | zero =>
      have h1 : v = u := by simpa using h1
      have h2 : d = some t := by simpa [Nm.push] using h2
      subst h1
      subst h2
      rw [Act.put_same (by rw [e.size]; exact hd t rfl)]
      exact hv
    | succ i =>
      have hne : d ≠ some t := by have := h3 0 (by omega); simpa [Nm.push] using this
      rw [Act.put_getD hne]
      exact e.st i u t (by simpa using h1) (by simpa [Nm.push] using h2) (fun j hj => by have := h3 (j + 1) (by omega); simpa [Nm.push] using this)
  · intro p u hp
    obtain ⟨h1, h2⟩ := e.fr p u hp
    refine ⟨h1, fun hnd => ?_⟩
    cases d with
    | none => exact h2 hnd
    | some t =>
      simp only [Nm.push] at hnd
      cases hc : n.kept.contains t with
      | true =>
        rw [hc] at hnd
        simp only [cond_true, List.mem_cons, not_or] at hnd
        rw [Act.put_getD (fun h' => hnd.1 (Option.some.inj h').symm)]
        exact h2 hnd.2
      | false =>
        rw [hc] at hnd
        rw [Act.put_getD (fun h' => by
          have := Option.some.inj h'
          subst this
          have h3 : n.kept.contains p.num = true := by simpa using h1
          rw [hc] at h3
          cases h3)]
        exact h2 hnd
theorem ER.keep {n : Nm} {ι : Io} {v : V} {st : St} {fr : Fr} {a : Act} (e : ER n ι (v :: st) fr a) {p : P} (hk : p.num ∈ n.kept) (hn : n.names.head? = some (some p.num)) : ER (n.keep p.num) ι (v :: st) (fr.set p v) a := by
  refine ⟨e.len, e.st, ?_, e.glob, e.size⟩
  intro q u hq
  rw [T.get_set] at hq
  split at hq
  · rename_i hpq
    subst hpq
    obtain rfl := Option.some.inj hq
    refine ⟨hk, fun _ => ?_⟩
    refine e.st 0 v p.num rfl ?_ (fun j hj => by omega)
    rw [← List.head?_eq_getElem?]; exact hn
  · rename_i hpq
    obtain ⟨h1, h2⟩ := e.fr q u hq
    refine ⟨h1, fun hnd => h2 (fun hin => hnd ?_)⟩
    simp only [Nm.keep, List.mem_filter]
    refine ⟨hin, ?_⟩
    simp only [Bool.not_eq_true', Bool.eq_false_iff]
    intro hb
    exact hpq (P.num_inj ((natBeq_iff _ _).1 hb)).symm
theorem ER.done {n : Nm} {ι : Io} {st : St} {fr : Fr} {a : Act} (e : ER n ι st fr a) (hd : n.dirty = []) : ER n.base ι [] fr a :=
  ⟨rfl, fun i v t h => by simp at h, fun p v hp => ⟨(e.fr p v hp).1, fun _ => (e.fr p v hp).2 (by rw [hd]; simp)⟩, e.glob, e.size⟩

/-! ### calls -/
/-- a call that comes back, so -/
def FnOK (Pg : Program) (f : Nat) (args : Array Value) (w : World) (Post : Value → World → Prop) : Prop :=
  ((callFunc f args).run Pg w = .ok (.enter f args) w ∧ Calls Pg f args w fun | .returned v, w' => Post v w' | _, _ => False) ∨
  ∃ v w', (callFunc f args).run Pg w = .ok (.value v) w' ∧ Post v w'
theorem FnOK.mono {Pg : Program} {f : Nat} {args : Array Value} {w : World} {A B : Value → World → Prop} (h : FnOK Pg f args w A) (k : ∀ v w', A v w' → B v w') : FnOK Pg f args w B := by
  rcases h with ⟨h1, h2⟩ | ⟨v, w', h1, h2⟩
  · refine .inl ⟨h1, h2.mono fun e w' he => ?_⟩
    cases e with
    | returned v => exact k v w' he
    | _ => exact he
  · exact .inr ⟨v, w', h1, k v w' h2⟩

def Post (ι : Io) (h : H) (w : World) (r : R) (v' : Value) (w' : World) : Prop := ∃ v h' ι', r.Leaf v h' ∧ VR ι' v v' ∧ Step ι h w ι' h' w'
def CfOK (Pg : Program) (ng : Nat) (cf : CallF) : Prop :=
  ∀ (f : P) (vs : List V) (h : H), (cf f vs h).safe → ∀ (ι : Io) (w : World) (args : Array Value), Rel ι h w → (∀ p : P, p.num < ng → ∃ l, ι p = some l ∧ l.g = p.num ∧ l.d = 0) → VRs ι vs args.toList → FnOK Pg f.num args w (Post ι h w (cf f vs h))
end Go.Am
namespace Go.Am

/-- what checks an operation against its opcode -/
def ChkOK (Pg : Program) (chk : Nm → Oper → C → Bool) : Prop :=
  ∀ (n : Nm) (o : Oper) (c : C) (a : Act) (w : World) (ι : Io) (h : H) (st : St) (fr : Fr), chk n o c = true → ER n ι st fr a → Rel ι h w → (c.sem st fr h).safe → OpOK Pg a o w ι h (c.sem st fr h)

def dstOk (n : Nm) (o : Oper) : Bool := match o.dst with | some t => Nat.blt t n.nt | none => true
theorem dstOk_spec {n : Nm} {o : Oper} (h : dstOk n o = true) : ∀ t, o.dst = some t → t < n.nt := by
  intro t ht
  rw [dstOk, ht] at h
  exact (natBlt_iff _ _).1 h
def dstOf (ops : Array Oper) (j : Nat) : Option Tmp := (ops[j]?).bind (·.dst)
def guardOk (ops : Array Oper) (n : Nm) (o : Oper) (g : I) (w : Bool) : Bool :=
  match o.guard with
  | some (j, w') => decide (w = w') && (match dstOf ops j with | some t => okX n (.tmp t) (.loc g) && Nat.blt t n.nt | none => false)
  | none => false
def callOk (n : Nm) (o : Oper) (f : P) (xs : List X) : Bool :=
  match o.op with
  | .call c => (match c.callee with | .value (.func f') => Nat.beq f.num f' && okXs n c.args.toList xs | _ => false)
  | _ => false
def callvOk (n : Nm) (o : Oper) (x : X) (xs : List X) : Bool :=
  match o.op with
  | .call c => (match c.callee with | .value g => okX n g x && okXs n c.args.toList xs | _ => false)
  | _ => false
def okIt (chk : Nm → Oper → C → Bool) (ops : Array Oper) (n : Nm) (o : Oper) : It → Bool
  | .op c => o.guard.isNone && chk n o c
  | .gop g w c => guardOk ops n o g w && chk n o c
  | .call f xs => o.guard.isNone && callOk n o f xs
  | .gcall g w f xs => guardOk ops n o g w && callOk n o f xs
  | .callv x xs => o.guard.isNone && callvOk n o x xs
  | .gcallv g w x xs => guardOk ops n o g w && callvOk n o x xs
  | _ => false
/-- its outcome -/
noncomputable def It.res (cf : CallF) (it : It) (st : St) (fr : Fr) (h : H) : R := match it with
  | .op c => c.sem st fr h
  | .gop i w c => onGuard (nthI .junk i st) w (c.sem st fr h) (.ok (.tup []) h)
  | .call f xs => cf f (evs xs st fr) h
  | .gcall i w f xs => onGuard (nthI .junk i st) w (cf f (evs xs st fr) h) (.ok (.tup []) h)
  | .callv x xs => callX cf (x.ev st fr) (evs xs st fr) h
  | .gcallv i w x xs => onGuard (nthI .junk i st) w (callX cf (x.ev st fr) (evs xs st fr) h) (.ok (.tup []) h)
  | _ => .no
theorem It.sem_res {chk : Nm → Oper → C → Bool} {ops : Array Oper} {n : Nm} {o : Oper} {it : It} (hk : okIt chk ops n o it = true) (cf : CallF) (k : KK) (st : St) (fr : Fr) (h : H) : it.sem cf k st fr h = push k st fr (it.res cf st fr h) := by
  cases it <;> first | rfl | (simp [okIt] at hk)

/-- the operation goes on as the outcome says -/
def ItOK (Pg : Program) (ops : Array Oper) (i : Nat) (o : Oper) (a : Act) (w : World) (ι : Io) (h : H) (r : R) : Prop :=
  ∀ (Q : Exit → Act → World → Prop) (K : Act → World → Prop), (∀ v h' ι' v' w', r.Leaf v h' → VR ι' v v' → Step ι h w ι' h' w' → K (a.put o.dst v') w') → wpOp Pg ops Q i K a w

section
variable {Pg : Program} {ops : Array Oper} {i : Nat} {o : Oper} {a : Act} {w : World} {ι : Io} {h : H} {st : St} {fr : Fr} {n : Nm}

theorem ItOK.of_op {r : R} (ho : ops[i]? = some o) (hw : Region.wanted o (yielded ops a.tmps) = true) (h1 : OpOK Pg a o w ι h r) : ItOK Pg ops i o a w ι h r := by
  intro Q K hK
  obtain ⟨v, h', hl, ι', v', w', he, hv, hs⟩ := h1
  unfold wpOp
  simp only [ho, hw, if_true]
  left
  unfold Oper.wp
  rcases he with he | ⟨he, rfl⟩
  · rw [he]; exact hK v h' ι' v' w' hl hv hs
  · rw [he]; exact hK v h' ι' undef w' hl hv hs
theorem ItOK.of_fn {r : R} {f : Nat} {args : Array Value} (ho : ops[i]? = some o) (hw : Region.wanted o (yielded ops a.tmps) = true) (he : (execOp a.eval o).run Pg w = (callFunc f args).run Pg w) (h1 : FnOK Pg f args w (Post ι h w r)) : ItOK Pg ops i o a w ι h r := by
  intro Q K hK
  unfold wpOp
  simp only [ho, hw, if_true]
  left
  unfold Oper.wp
  rw [he]
  rcases h1 with ⟨h1, h2⟩ | ⟨v', w', h1, v, h', ι', hl, hv, hs⟩
  · rw [h1]
    refine h2.mono fun e w' hp => ?_
    cases e with
    | returned v' => obtain ⟨v, h', ι', hl, hv, hs⟩ := hp; exact hK v h' ι' v' w' hl hv hs
    | panicked c => exact hp.elim
    | outgrown => exact hp.elim
  · rw [h1]; exact hK v h' ι' v' w' hl hv hs
theorem ItOK.of_skip (ho : ops[i]? = some o) (hw : Region.wanted o (yielded ops a.tmps) = false) (hr : Rel ι h w) : ItOK Pg ops i o a w ι h (.ok (.tup []) h) := by
  intro Q K hK
  unfold wpOp
  simp only [ho, hw, Bool.false_eq_true, if_false]
  exact hK (.tup []) h ι undef w (.ok _ _) (.tup rfl (fun i v v' a => by simp at a)) (Step.refl hr)

def boolOf : Value → Option Bool
  | .bool b => some b
  | _ => none
/-- whether the operation is wanted, the machine sees -/
theorem guard_safe {g : I} {want : Bool} {A : R} (e : ER n ι st fr a) (hg : guardOk ops n o g want = true) (hs : (onGuard (nthI .junk g st) want A (.ok (.tup []) h)).safe) :
    (Region.wanted o (yielded ops a.tmps) = true ∧ onGuard (nthI .junk g st) want A (.ok (.tup []) h) = A) ∨ (Region.wanted o (yielded ops a.tmps) = false ∧ onGuard (nthI .junk g st) want A (.ok (.tup []) h) = .ok (.tup []) h) := by
  unfold guardOk at hg
  cases hgo : o.guard with
  | none => rw [hgo] at hg; cases hg
  | some jw =>
    obtain ⟨j, w'⟩ := jw
    rw [hgo] at hg
    simp only [Bool.and_eq_true, decide_eq_true_eq] at hg
    obtain ⟨rfl, hg⟩ := hg
    cases hd : dstOf ops j with
    | none => rw [hd] at hg; cases hg
    | some t =>
      rw [hd] at hg
      simp only [Bool.and_eq_true, natBlt_iff] at hg
      obtain ⟨hx, ht⟩ := hg
      have hv : VR ι (nthI .junk g st) (a.tmps.getD t undef) := okX_ok e hx
      have hts : t < a.tmps.size := by rw [e.size]; exact ht
      have hget : a.tmps[t]? = some (a.tmps.getD t undef) := by simp [hts]
      generalize hu : a.tmps.getD t undef = u at hv hget
      have hy : yielded ops a.tmps j = boolOf u := by
        unfold yielded
        rw [show (ops[j]?).bind (·.dst) = some t from hd]
        simp only [Option.bind_some]
        rw [hget]
        cases u <;> rfl
      have hwant : Region.wanted o (yielded ops a.tmps) = (yielded ops a.tmps j == some want) := by unfold Region.wanted; rw [hgo]
      generalize hnv : nthI V.junk g st = gv at hv hs ⊢
      cases gv with
      | bool b =>
        cases hv
        rw [hwant, hy]
        cases b <;> cases want
        · exact .inl ⟨rfl, rfl⟩
        · exact .inr ⟨rfl, rfl⟩
        · exact .inr ⟨rfl, rfl⟩
        · exact .inl ⟨rfl, rfl⟩
      | tup l =>
        cases l with
        | nil =>
          cases hv
          rw [hwant, hy]
          exact .inr ⟨rfl, rfl⟩
        | cons => exact hs.elim
      | _ => exact hs.elim

theorem evs_append {ι : Io} {x : List V} {y : List V} {x' y' : Array Value} (h : VRs ι x x'.toList) (k : VRs ι y y'.toList) : VRs ι (app x y) (x' ++ y').toList := by
  rw [app_eq, Array.toList_append]; exact h.append k

theorem it_ok {chk : Nm → Oper → C → Bool} {cf : CallF} {it : It} (hchk : ChkOK Pg chk) (hcf : CfOK Pg n.ng cf) (hk : okIt chk ops n o it = true) (ho : ops[i]? = some o) (e : ER n ι st fr a) (hr : Rel ι h w) (hs : (it.res cf st fr h).safe) : ItOK Pg ops i o a w ι h (it.res cf st fr h) := by
  have want : o.guard.isNone = true → Region.wanted o (yielded ops a.tmps) = true := by
    intro hn
    unfold Region.wanted
    cases hg : o.guard with
    | none => rfl
    | some => rw [hg] at hn; cases hn
  have call : ∀ {f : P} {xs : List X}, callOk n o f xs = true → (cf f (evs xs st fr) h).safe → ∃ args, (execOp a.eval o).run Pg w = (callFunc f.num args).run Pg w ∧ FnOK Pg f.num args w (Post ι h w (cf f (evs xs st fr) h)) := by
    intro f xs hc hs
    unfold callOk at hc
    split at hc
    · rename_i c hop
      split at hc
      · rename_i f' hcal
        simp only [Bool.and_eq_true, natBeq_iff] at hc
        obtain ⟨rfl, hx⟩ := hc
        have hxs := okXs_ok e hx
        refine ⟨c.args.map a.eval, ?_, hcf f _ h hs ι w (c.args.map a.eval) hr e.glob (by simpa using hxs)⟩
        simp [execOp, hop, resolve, hcal, Act.eval, Deferred.ofValue, invoke]
      · cases hc
    · cases hc
  have callv : ∀ {x : X} {xs : List X}, callvOk n o x xs = true → (callX cf (x.ev st fr) (evs xs st fr) h).safe → ∃ f args, (execOp a.eval o).run Pg w = (callFunc f args).run Pg w ∧ FnOK Pg f args w (Post ι h w (callX cf (x.ev st fr) (evs xs st fr) h)) := by
    intro x xs hc hs
    unfold callvOk at hc
    split at hc
    · rename_i c hop
      split at hc
      · rename_i g hcal
        simp only [Bool.and_eq_true] at hc
        obtain ⟨hx, hxs⟩ := hc
        have hxs := okXs_ok e hxs
        have hv := okX_ok e hx
        unfold callX at hs ⊢
        obtain ⟨f, b, cc, hf, e2⟩ := onFn_safe hs
        rw [e2] at hs ⊢
        rw [hf] at hv
        generalize hgv : a.eval g = gv at hv
        cases hv with
        | fn e1 e3 r1 r2 =>
          rename_i b' cc'
          refine ⟨f.num, b' ++ c.args.map a.eval ++ cc', ?_, hcf f _ h hs ι w _ hr e.glob ?_⟩
          · simp [execOp, hop, resolve, hcal, hgv, Deferred.ofValue, invoke]
          · have hb : VRs ι b b'.toList := ⟨by simpa using e1, fun i v v' a b => r1 i v v' a (by simpa using b)⟩
            have hcc : VRs ι cc cc'.toList := ⟨by simpa using e3, fun i v v' a b => r2 i v v' a (by simpa using b)⟩
            have := evs_append hb (evs_append (x' := c.args.map a.eval) (by simpa using hxs) hcc)
            rw [Array.append_assoc]
            exact this
      · cases hc
    · cases hc
  cases it with
  | op c =>
    simp only [okIt, Bool.and_eq_true] at hk
    exact ItOK.of_op ho (want hk.1) (hchk n o c a w ι h st fr hk.2 e hr hs)
  | gop g wt c =>
    simp only [okIt, Bool.and_eq_true] at hk
    have hs : (onGuard (nthI .junk g st) wt (c.sem st fr h) (.ok (.tup []) h)).safe := hs
    show ItOK Pg ops i o a w ι h (onGuard (nthI .junk g st) wt (c.sem st fr h) (.ok (.tup []) h))
    rcases guard_safe e hk.1 hs with ⟨h1, h2⟩ | ⟨h1, h2⟩
    · rw [h2] at hs ⊢
      exact ItOK.of_op ho h1 (hchk n o c a w ι h st fr hk.2 e hr hs)
    · rw [h2]; exact ItOK.of_skip ho h1 hr
  | call f xs =>
    simp only [okIt, Bool.and_eq_true] at hk
    obtain ⟨args, h1, h2⟩ := call hk.2 hs
    exact ItOK.of_fn ho (want hk.1) h1 h2
  | gcall g wt f xs =>
    simp only [okIt, Bool.and_eq_true] at hk
    have hs : (onGuard (nthI .junk g st) wt (cf f (evs xs st fr) h) (.ok (.tup []) h)).safe := hs
    show ItOK Pg ops i o a w ι h (onGuard (nthI .junk g st) wt (cf f (evs xs st fr) h) (.ok (.tup []) h))
    rcases guard_safe e hk.1 hs with ⟨h1, h2⟩ | ⟨h1, h2⟩
    · rw [h2] at hs ⊢
      obtain ⟨args, h3, h4⟩ := call hk.2 hs
      exact ItOK.of_fn ho h1 h3 h4
    · rw [h2]; exact ItOK.of_skip ho h1 hr
  | callv x xs =>
    simp only [okIt, Bool.and_eq_true] at hk
    obtain ⟨f, args, h1, h2⟩ := callv hk.2 hs
    exact ItOK.of_fn ho (want hk.1) h1 h2
  | gcallv g wt x xs =>
    simp only [okIt, Bool.and_eq_true] at hk
    have hs : (onGuard (nthI .junk g st) wt (callX cf (x.ev st fr) (evs xs st fr) h) (.ok (.tup []) h)).safe := hs
    show ItOK Pg ops i o a w ι h (onGuard (nthI .junk g st) wt (callX cf (x.ev st fr) (evs xs st fr) h) (.ok (.tup []) h))
    rcases guard_safe e hk.1 hs with ⟨h1, h2⟩ | ⟨h1, h2⟩
    · rw [h2] at hs ⊢
      obtain ⟨f, args, h3, h4⟩ := callv hk.2 hs
      exact ItOK.of_fn ho h1 h3 h4
    · rw [h2]; exact ItOK.of_skip ho h1 hr
  | _ => simp [okIt] at hk

/-! ### regions in their order -/
def okIts (chk : Nm → Oper → C → Bool) (ops : Array Oper) : Nm → List It → List Nat → Bool
  | n, .keep p :: its, l => n.kept.contains p.num && decide (n.names.head? = some (some p.num)) && okIts chk ops (n.keep p.num) its l
  | n, it :: its, i :: l => (match ops[i]? with | some o => dstOk n o && okIt chk ops n o it && okIts chk ops (n.push o.dst) its l | none => false)
  | n, [], [] => n.dirty.isEmpty
  | _, _, _ => false

theorem its_ok {chk : Nm → Oper → C → Bool} {cf : CallF} {Q : Exit → Act → World → Prop} (hchk : ChkOK Pg chk) : ∀ (its : List It) (l : List Nat) (n : Nm) (ι : Io) (st : St) (fr : Fr) (h : H) (a : Act) (w : World), CfOK Pg n.ng cf → okIts chk ops n its l = true → ER n ι st fr a → Rel ι h w → (runIts cf its st fr h).safe →
    (∀ fr' h' ι' a' w', (runIts cf its st fr h).Leaf .norm fr' h' → ER n.base ι' [] fr' a' → Step ι h w ι' h' w' → a'.defers = a.defers → Q .normal a' w') → wpOps Pg ops Q l a w := by
  intro its
  induction its with
  | nil =>
    intro l n ι st fr h a w hcf hk e hr hs hQ
    cases l with
    | nil =>
      exact hQ fr h ι a w (.norm _ _) (e.done (by simpa [okIts] using hk)) (Step.refl hr) rfl
    | cons => simp [okIts] at hk
  | cons it its ih =>
    intro l n ι st fr h a w hcf hk e hr hs hQ
    by_cases hkeep : ∃ p, it = .keep p
    · obtain ⟨p, rfl⟩ := hkeep
      simp only [okIts, Bool.and_eq_true, List.contains_eq_mem, decide_eq_true_eq] at hk
      obtain ⟨⟨h1, h2⟩, h3⟩ := hk
      cases st with
      | nil =>
        have := e.len
        cases hn : n.names with
        | nil => rw [hn] at h2; cases h2
        | cons => rw [hn] at this; simp at this
      | cons v st =>
        have hs' : (runIts cf its (v :: st) (fr.set p v) h).safe := hs
        exact ih l (n.keep p.num) ι (v :: st) (fr.set p v) h a w hcf h3 (e.keep h1 h2) hr hs' hQ
    · cases l with
      | nil => cases it <;> first | (exact (hkeep ⟨_, rfl⟩).elim) | (simp [okIts] at hk)
      | cons i l =>
        have hk' : (match ops[i]? with | some o => dstOk n o && okIt chk ops n o it && okIts chk ops (n.push o.dst) its l | none => false) = true := by
          cases it <;> first | exact hk | (exact (hkeep ⟨_, rfl⟩).elim)
        cases ho : ops[i]? with
        | none => rw [ho] at hk'; cases hk'
        | some o =>
          rw [ho] at hk'
          simp only [Bool.and_eq_true] at hk'
          obtain ⟨⟨hd, h1⟩, h2⟩ := hk'
          have hsem : runIts cf (it :: its) st fr h = push (runIts cf its) st fr (it.res cf st fr h) := It.sem_res h1 cf (runIts cf its) st fr h
          rw [hsem] at hs hQ
          obtain ⟨s1, s2⟩ := push_safe hs
          rw [wpOps_cons]
          refine it_ok hchk hcf h1 ho e hr s1 Q _ fun v h' ι' v' w' hl hv hst => ?_
          refine ih l (n.push o.dst) ι' (v :: st) fr h' (a.put o.dst v') w' hcf h2 ((e.mono hst.ext).push (dstOk_spec hd) hv) hst.rel (s2 v h' hl) ?_
          intro fr2 h2 ι2 a2 w2 hl2 e2 st2 hdef
          refine hQ fr2 h2 ι2 a2 w2 (push_leaf hl hl2) e2 (hst.trans st2) (hdef.trans ?_)
          cases o.dst <;> rfl
end
end Go.Am
namespace Go.Am
section
variable {Pg : Program} {n : Nm} {o : Oper} {a : Act} {w : World} {ι : Io} {h : H} {st : St} {fr : Fr}
theorem isStr_spec {t : TypeId} (h : isStr Pg t = true) : Pg.underlying t = some .string := by
  unfold isStr at h; split at h
  · assumption
  · cases h
theorem isBytes_spec {t : TypeId} (h : isBytes Pg t = true) : ∃ e, Pg.underlying t = some (.slice e) ∧ Pg.underlying e = some (.int .u8) := by
  unfold isBytes at h; split at h
  · rename_i e he
    split at h
    · exact ⟨e, he, by assumption⟩
    · cases h
  · cases h
theorem beq_spec {a b : Nat} (h : Nat.beq a b = true) : a = b := (natBeq_iff _ _).1 h
theorem nbeq_spec {a b : Nat} (h : (!(Nat.beq a b)) = true) : a ≠ b := fun e => by rw [e, Nat.beq_refl] at h; cases h
theorem mx_spec {α : Type} {mx hi : Option α} (h : (!(mx.isSome) || hi.isSome) = true) : mx.isSome = true → hi.isSome = true := fun hm => by rw [hm] at h; simpa using h
theorem some_spec {α : Type} {x : Option α} (h : x.isSome = true) : ∃ y, x = some y := by cases x with | none => cases h | some y => exact ⟨y, rfl⟩
theorem copOk_spec {c : COp} {b : BinOp} (h : copOk c b = true) : b = copB c := by cases c <;> cases b <;> first | rfl | cases h

theorem mv_c {x : X} (e : ER n ι st fr a) (hr : Rel ι h w) (hk : kMv n o x = true) (hs : (cMv x st fr h).safe) : OpOK Pg a o w ι h (cMv x st fr h) := by
  unfold kMv at hk
  split at hk
  · exact ok_mv hr (.inl (by assumption)) (okX_ok e hk)
  · exact ok_mv hr (.inr (by assumption)) (okX_ok e hk)
  · cases hk
theorem pick_c {c x y : X} (e : ER n ι st fr a) (hr : Rel ι h w) (hk : kPick n o c x y = true) (hs : (cPick c x y st fr h).safe) : OpOK Pg a o w ι h (cPick c x y st fr h) := by
  unfold kPick at hk
  split at hk
  · simp only [Bool.and_eq_true] at hk
    exact ok_pick hr (by assumption) (okX_ok e hk.1.1) (okX_ok e hk.1.2) (okX_ok e hk.2) hs
  · cases hk
theorem alloc_c {z : List V} (e : ER n ι st fr a) (hr : Rel ι h w) (hk : kAlloc Pg o z = true) (hs : (cAlloc z st fr h).safe) : OpOK Pg a o w ι h (cAlloc z st fr h) := by
  unfold kAlloc at hk
  split at hk
  · split at hk
    · exact ok_alloc hr (by assumption) (by assumption) hk
    · cases hk
  · cases hk
theorem box_c {x : X} (e : ER n ι st fr a) (hr : Rel ι h w) (hk : kBox n o x = true) (hs : (cBox x st fr h).safe) : OpOK Pg a o w ι h (cBox x st fr h) := by
  unfold kBox at hk
  split at hk
  · exact ok_box hr (by assumption) (okX_ok e hk) hs
  · cases hk
theorem build_c {z : List V} {ps : List (Nat × Nat × X)} (e : ER n ι st fr a) (hr : Rel ι h w) (hk : kBuild Pg n o z ps = true) (hs : (cBuild z ps st fr h).safe) : OpOK Pg a o w ι h (cBuild z ps st fr h) := by
  unfold kBuild at hk
  split at hk
  · rename_i t ps' ho
    split at hk
    · rename_i it hit
      split at hk
      · rename_i zv hz
        simp only [Bool.and_eq_true] at hk
        obtain ⟨hzc, hk⟩ := hk
        split at hk
        · rename_i m e' hu
          split at hk
          · rename_i ie hie
            exact ok_build hr e ho hzc hk (fun parts => by unfold Program.built; simp [hit, hu, hz, hie]) hs
          · cases hk
        · rename_i fs hu
          split at hk
          · rename_i pl hpl
            exact ok_build hr e ho hzc hk (fun parts => by
              unfold placesOf at hpl
              unfold Program.built
              simp [hit, hu, hz, hpl]) hs
          · cases hk
        · cases hk
      · cases hk
    · cases hk
  · cases hk
theorem bslice_c {es m : Nat} {z : List V} {ps : List (Nat × Nat × X)} (e : ER n ι st fr a) (hr : Rel ι h w) (hk : kBslice Pg n o es m z ps = true) (hs : (cBslice es m z ps st fr h).safe) : OpOK Pg a o w ι h (cBslice es m z ps st fr h) := by
  unfold kBslice at hk
  split at hk
  · rename_i t m' ps' ho
    simp only [Bool.and_eq_true] at hk
    obtain ⟨⟨⟨h1, h2⟩, h3⟩, hk⟩ := hk
    obtain rfl := beq_spec h1
    rw [natBle_iff] at h2 h3
    split at hk
    · rename_i e' hu
      split at hk
      · rename_i ie hie
        split at hk
        · rename_i zv hz
          simp only [Bool.and_eq_true] at hk
          exact ok_bslice hr e ho hu hie (beq_spec hk.1.1) hz h2 h3 hk.1.2 hk.2 hs
        · cases hk
      · cases hk
    · cases hk
  · cases hk
theorem ld_c {x : X} (e : ER n ι st fr a) (hr : Rel ι h w) (hk : kLd Pg n o x = true) (hs : (cLd x st fr h).safe) : OpOK Pg a o w ι h (cLd x st fr h) := by
  unfold kLd at hk
  split at hk
  · split at hk
    · simp only [Bool.and_eq_true, Bool.not_eq_true'] at hk
      exact ok_ld hr (by assumption) (by assumption) hk.1 (okX_ok e hk.2) hs
    · cases hk
  · cases hk
theorem ldn_c {k : Nat} {x : X} (e : ER n ι st fr a) (hr : Rel ι h w) (hk : kLdn Pg n o k x = true) (hs : (cLdn k x st fr h).safe) : OpOK Pg a o w ι h (cLdn k x st fr h) := by
  unfold kLdn at hk
  split at hk
  · split at hk
    · simp only [Bool.and_eq_true] at hk
      obtain ⟨⟨h1, h2⟩, hk⟩ := hk
      split at hk
      · exact ok_ldn hr (by assumption) (by assumption) h1 (by assumption) (beq_spec hk) (okX_ok e h2) hs
      · cases hk
    · cases hk
  · cases hk
theorem st_c {k : Nat} {x y : X} (e : ER n ι st fr a) (hr : Rel ι h w) (hk : kSt Pg n o k x y = true) (hs : (cSt k x y st fr h).safe) : OpOK Pg a o w ι h (cSt k x y st fr h) := by
  unfold kSt at hk
  split at hk
  · simp only [Bool.and_eq_true] at hk
    obtain ⟨⟨h1, h2⟩, hk⟩ := hk
    split at hk
    · exact ok_st hr (by assumption) (by assumption) (beq_spec hk) (okX_ok e h1) (okX_ok e h2) hs
    · cases hk
  · cases hk
theorem nck_c {x : X} (e : ER n ι st fr a) (hr : Rel ι h w) (hk : kNck n o x = true) (hs : (cNck x st fr h).safe) : OpOK Pg a o w ι h (cNck x st fr h) := by
  unfold kNck at hk
  split at hk
  · exact ok_nck hr (by assumption) (okX_ok e hk) hs
  · cases hk
theorem ar_c {op : AOp} {k : IntKind} {x y : X} (e : ER n ι st fr a) (hr : Rel ι h w) (hk : kAr n o op x y = true) (hs : (cAr op k x y st fr h).safe) : OpOK Pg a o w ι h (cAr op k x y st fr h) := by
  unfold kAr at hk
  split at hk
  · rename_i b t x' y' yt ho
    simp only [Bool.and_eq_true] at hk
    exact ok_ar hr ho (by have := hk.1.1; cases op <;> cases b <;> first | rfl | cases this) (okX_ok e hk.1.2) (okX_ok e hk.2) hs
  · cases hk
theorem cmp_c {op : COp} {x y : X} (e : ER n ι st fr a) (hr : Rel ι h w) (hk : kCop n o op x y = true) (hs : (cCmp op x y st fr h).safe) : OpOK Pg a o w ι h (cCmp op x y st fr h) := by
  unfold kCop at hk
  split at hk
  · rename_i b t x' y' yt ho
    simp only [Bool.and_eq_true] at hk
    exact ok_cmp hr (by rw [ho, copOk_spec hk.1.1]) (okX_ok e hk.1.2) (okX_ok e hk.2) hs
  · cases hk
theorem scmp_c {op : COp} {x y : X} (e : ER n ι st fr a) (hr : Rel ι h w) (hk : kCop n o op x y = true) (hs : (cScmp op x y st fr h).safe) : OpOK Pg a o w ι h (cScmp op x y st fr h) := by
  unfold kCop at hk
  split at hk
  · rename_i b t x' y' yt ho
    simp only [Bool.and_eq_true] at hk
    exact ok_scmp hr (by rw [ho, copOk_spec hk.1.1]) (okX_ok e hk.1.2) (okX_ok e hk.2) hs
  · cases hk
theorem bits_c {op : BOp} {k : IntKind} {x y : X} (e : ER n ι st fr a) (hr : Rel ι h w) (hk : kBop n o op x y = true) (hs : (cBits op k x y st fr h).safe) : OpOK Pg a o w ι h (cBits op k x y st fr h) := by
  unfold kBop at hk
  split at hk
  · rename_i b t x' y' yt ho
    simp only [Bool.and_eq_true] at hk
    exact ok_bits hr ho (by have := hk.1.1; cases op <;> cases b <;> first | rfl | cases this) (okX_ok e hk.1.2) (okX_ok e hk.2) hs
  · cases hk
theorem shl_c {k : IntKind} {x y : X} (e : ER n ι st fr a) (hr : Rel ι h w) (hk : kShl n o x y = true) (hs : (cShl k x y st fr h).safe) : OpOK Pg a o w ι h (cShl k x y st fr h) := by
  unfold kShl at hk
  split at hk
  · simp only [Bool.and_eq_true] at hk
    exact ok_shl hr (by assumption) (okX_ok e hk.1) (okX_ok e hk.2) hs
  · cases hk
theorem shr_c {k : IntKind} {x y : X} (e : ER n ι st fr a) (hr : Rel ι h w) (hk : kShr n o x y = true) (hs : (cShr k x y st fr h).safe) : OpOK Pg a o w ι h (cShr k x y st fr h) := by
  unfold kShr at hk
  split at hk
  · simp only [Bool.and_eq_true] at hk
    exact ok_shr hr (by assumption) (okX_ok e hk.1) (okX_ok e hk.2) hs
  · cases hk
theorem sadd_c {x y : X} (e : ER n ι st fr a) (hr : Rel ι h w) (hk : kSadd n o x y = true) (hs : (cSadd x y st fr h).safe) : OpOK Pg a o w ι h (cSadd x y st fr h) := by
  unfold kSadd at hk
  split at hk
  · simp only [Bool.and_eq_true] at hk
    exact ok_sadd hr (by assumption) (okX_ok e hk.1) (okX_ok e hk.2) hs
  · cases hk
theorem eqv_c {neg : Bool} {k : EqK} {x y : X} (e : ER n ι st fr a) (hr : Rel ι h w) (hk : kEqv Pg n o neg k x y = true) (hs : (cEqv neg k x y st fr h).safe) : OpOK Pg a o w ι h (cEqv neg k x y st fr h) := by
  unfold kEqv at hk
  split at hk
  · rename_i t x' y' yt ho
    simp only [Bool.and_eq_true, Bool.not_eq_true'] at hk
    obtain ⟨⟨⟨rfl, h2⟩, h3⟩, h4⟩ := hk
    exact ok_eqv hr ho h2 (okX_ok e h3) (okX_ok e h4) hs
  · rename_i t x' y' yt ho
    simp only [Bool.and_eq_true] at hk
    obtain ⟨⟨⟨rfl, h2⟩, h3⟩, h4⟩ := hk
    exact ok_eqv hr ho h2 (okX_ok e h3) (okX_ok e h4) hs
  · cases hk
theorem neg_c {k : IntKind} {x : X} (e : ER n ι st fr a) (hr : Rel ι h w) (hk : kNeg n o x = true) (hs : (cNeg k x st fr h).safe) : OpOK Pg a o w ι h (cNeg k x st fr h) := by
  unfold kNeg at hk
  split at hk
  · exact ok_neg hr (by assumption) (okX_ok e hk) hs
  · cases hk
theorem not_c {x : X} (e : ER n ι st fr a) (hr : Rel ι h w) (hk : kNot n o x = true) (hs : (cNot x st fr h).safe) : OpOK Pg a o w ι h (cNot x st fr h) := by
  unfold kNot at hk
  split at hk
  · exact ok_not hr (by assumption) (okX_ok e hk) hs
  · cases hk
theorem xorU_c {k : IntKind} {x : X} (e : ER n ι st fr a) (hr : Rel ι h w) (hk : kXor n o x = true) (hs : (cXorU k x st fr h).safe) : OpOK Pg a o w ι h (cXorU k x st fr h) := by
  unfold kXor at hk
  split at hk
  · exact ok_xorU hr (by assumption) (okX_ok e hk) hs
  · cases hk
theorem i2i_c {k : IntKind} {x : X} (e : ER n ι st fr a) (hr : Rel ι h w) (hk : kI2i Pg n o k x = true) (hs : (cI2i k x st fr h).safe) : OpOK Pg a o w ι h (cI2i k x st fr h) := by
  unfold kI2i at hk
  split at hk
  · simp only [Bool.and_eq_true] at hk
    obtain ⟨⟨h1, h2⟩, hk⟩ := hk
    obtain ⟨d, hd⟩ := some_spec h2
    split at hk
    · rename_i k' hu
      rw [kEq_iff] at hk
      subst hk
      exact ok_i2i hr (by assumption) hd hu (okX_ok e h1) hs
    · cases hk
  · cases hk
theorem i2s_c {x : X} (e : ER n ι st fr a) (hr : Rel ι h w) (hk : kI2s Pg n o x = true) (hs : (cI2s x st fr h).safe) : OpOK Pg a o w ι h (cI2s x st fr h) := by
  unfold kI2s at hk
  split at hk
  · simp only [Bool.and_eq_true] at hk
    obtain ⟨⟨h1, h2⟩, hk⟩ := hk
    obtain ⟨d, hd⟩ := some_spec h2
    split at hk
    · exact ok_i2s hr (by assumption) hd (by assumption) (okX_ok e h1) hs
    · cases hk
  · cases hk
theorem s2s_c {x : X} (e : ER n ι st fr a) (hr : Rel ι h w) (hk : kS2s Pg n o x = true) (hs : (cS2s x st fr h).safe) : OpOK Pg a o w ι h (cS2s x st fr h) := by
  unfold kS2s at hk
  split at hk
  · simp only [Bool.and_eq_true] at hk
    exact ok_s2s hr (by assumption) (isStr_spec hk.1.2) (isStr_spec hk.2) (okX_ok e hk.1.1) hs
  · cases hk
theorem s2b_c {x : X} (e : ER n ι st fr a) (hr : Rel ι h w) (hk : kS2b Pg n o x = true) (hs : (cS2b x st fr h).safe) : OpOK Pg a o w ι h (cS2b x st fr h) := by
  unfold kS2b at hk
  split at hk
  · simp only [Bool.and_eq_true] at hk
    obtain ⟨e', h1, h2⟩ := isBytes_spec hk.2
    exact ok_s2b hr (by assumption) (isStr_spec hk.1.2) h1 h2 (okX_ok e hk.1.1) hs
  · cases hk
theorem b2s_c {x : X} (e : ER n ι st fr a) (hr : Rel ι h w) (hk : kB2s Pg n o x = true) (hs : (cB2s x st fr h).safe) : OpOK Pg a o w ι h (cB2s x st fr h) := by
  unfold kB2s at hk
  split at hk
  · simp only [Bool.and_eq_true] at hk
    obtain ⟨e', h1, h2⟩ := isBytes_spec hk.1.2
    exact ok_b2s hr (by assumption) h1 h2 (isStr_spec hk.2) (okX_ok e hk.1.1) hs
  · cases hk
theorem mkif_c {t : Nat} {x : X} (e : ER n ι st fr a) (hr : Rel ι h w) (hk : kMkif Pg n o t x = true) (hs : (cMkif t x st fr h).safe) : OpOK Pg a o w ι h (cMkif t x st fr h) := by
  unfold kMkif at hk
  split at hk
  · simp only [Bool.and_eq_true] at hk
    obtain ⟨⟨h1, h2⟩, hk⟩ := hk
    obtain rfl := beq_spec h1
    split at hk
    · simp only [Bool.not_eq_true'] at hk
      exact ok_mkif hr (by assumption) (by assumption) hk (okX_ok e h2)
    · cases hk
  · cases hk
theorem mkfn_c {f : P} {xs cs : List X} (e : ER n ι st fr a) (hr : Rel ι h w) (hk : kMkfn n o f xs cs = true) (hs : (cMkfn f xs cs st fr h).safe) : OpOK Pg a o w ι h (cMkfn f xs cs st fr h) := by
  unfold kMkfn at hk
  split at hk
  · simp only [Bool.and_eq_true] at hk
    obtain ⟨⟨h1, h2⟩, h3⟩ := hk
    obtain rfl := beq_spec h1
    exact ok_mkfn hr (by assumption) (okXs_ok e h2) (okXs_ok e h3)
  · cases hk
theorem mkmap_c  (e : ER n ι st fr a) (hr : Rel ι h w) (hk : kMkmap Pg o = true) (hs : (cMkmap st fr h).safe) : OpOK Pg a o w ι h (cMkmap st fr h) := by
  unfold kMkmap at hk
  split at hk
  · rename_i t r ho
    refine ok_mkmap hr ho ?_
    intro x hx
    subst hx
    split at hk
    · rename_i hh; cases hh
    · rename_i k i hh
      obtain rfl := Option.some.inj hh
      split at hk
      · rename_i k' v' hu; exact ⟨⟨k', v', hu⟩, k, i, rfl⟩
      · cases hk
    · cases hk
  · cases hk
theorem mksl_c {es bytes : Nat} {z : List V} {l c : X} (e : ER n ι st fr a) (hr : Rel ι h w) (hk : kMksl Pg n o es bytes z l c = true) (hs : (cMksl es bytes z l c st fr h).safe) : OpOK Pg a o w ι h (cMksl es bytes z l c st fr h) := by
  unfold kMksl at hk
  split at hk
  · simp only [Bool.and_eq_true] at hk
    obtain ⟨⟨h1, h2⟩, hk⟩ := hk
    split at hk
    · split at hk
      · split at hk
        · simp only [Bool.and_eq_true] at hk
          obtain ⟨⟨⟨h3, h4⟩, h5⟩, h6⟩ := hk
          exact ok_mksl hr (by assumption) (by assumption) (by assumption) (beq_spec h3) (beq_spec h4) (by assumption) (beq_spec h5) h6 (okX_ok e h1) (okX_ok e h2) hs
        · cases hk
      · cases hk
    · cases hk
  · cases hk
theorem sls_c {x : X} {lo hi : Option X} (e : ER n ι st fr a) (hr : Rel ι h w) (hk : kSls Pg n o x lo hi = true) (hs : (cSls x lo hi st fr h).safe) : OpOK Pg a o w ι h (cSls x lo hi st fr h) := by
  unfold kSls at hk
  split at hk
  · simp only [Bool.and_eq_true] at hk
    exact ok_sls hr (by assumption) (isStr_spec hk.1.1.1) (okX_ok e hk.1.1.2) (okO_ok e hk.1.2) (okO_ok e hk.2) hs
  · cases hk
theorem slc_c {es : Nat} {x : X} {lo hi mx : Option X} (e : ER n ι st fr a) (hr : Rel ι h w) (hk : kSlc Pg n o es x lo hi mx = true) (hs : (cSlc es x lo hi mx st fr h).safe) : OpOK Pg a o w ι h (cSlc es x lo hi mx st fr h) := by
  unfold kSlc at hk
  split at hk
  · simp only [Bool.and_eq_true] at hk
    obtain ⟨⟨⟨⟨⟨⟨h1, h2⟩, h3⟩, h4⟩, h5⟩, h6⟩, hk⟩ := hk
    split at hk
    · split at hk
      · exact ok_slc hr (by assumption) (by assumption) (by assumption) (beq_spec hk) (nbeq_spec h6) (mx_spec h5) (okX_ok e h1) (okO_ok e h2) (okO_ok e h3) (okO_ok e h4) hs
      · cases hk
    · cases hk
  · cases hk
theorem slarr_c {es m : Nat} {x : X} {lo hi mx : Option X} (e : ER n ι st fr a) (hr : Rel ι h w) (hk : kSlarr Pg n o es m x lo hi mx = true) (hs : (cSlarr es m x lo hi mx st fr h).safe) : OpOK Pg a o w ι h (cSlarr es m x lo hi mx st fr h) := by
  unfold kSlarr at hk
  split at hk
  · simp only [Bool.and_eq_true] at hk
    obtain ⟨⟨⟨⟨⟨⟨⟨h1, h2⟩, h3⟩, h4⟩, h5⟩, h6⟩, h7⟩, hk⟩ := hk
    split at hk
    · simp only [Bool.and_eq_true] at hk
      obtain ⟨h8, hk⟩ := hk
      obtain rfl := beq_spec h8
      split at hk
      · exact ok_slarr hr (by assumption) (by assumption) (by assumption) (beq_spec hk) (nbeq_spec h6) ((natBle_iff _ _).1 h7) (mx_spec h5) (okX_ok e h1) (okO_ok e h2) (okO_ok e h3) (okO_ok e h4) hs
      · cases hk
    · cases hk
  · cases hk
theorem fa_c {off : Nat} {x : X} (e : ER n ι st fr a) (hr : Rel ι h w) (hk : kFa Pg n o off x = true) (hs : (cFa off x st fr h).safe) : OpOK Pg a o w ι h (cFa off x st fr h) := by
  unfold kFa at hk
  split at hk
  · simp only [Bool.and_eq_true] at hk
    obtain ⟨h1, hk⟩ := hk
    split at hk
    · split at hk
      · simp only [Bool.and_eq_true] at hk
        exact ok_fa hr (by assumption) (by assumption) (by assumption) (beq_spec hk.1) (nbeq_spec hk.2) (okX_ok e h1) hs
      · cases hk
    · cases hk
  · cases hk
theorem fld_c {off : Nat} {x : X} (e : ER n ι st fr a) (hr : Rel ι h w) (hk : kFld Pg n o off x = true) (hs : (cFld off x st fr h).safe) : OpOK Pg a o w ι h (cFld off x st fr h) := by
  unfold kFld at hk
  split at hk
  · simp only [Bool.and_eq_true] at hk
    obtain ⟨h1, hk⟩ := hk
    split at hk
    · split at hk
      · simp only [Bool.and_eq_true] at hk
        obtain ⟨h2, hk⟩ := hk
        split at hk
        · simp only [Bool.not_eq_true'] at hk
          exact ok_fld hr (by assumption) (by assumption) (by assumption) (beq_spec h2) (by assumption) hk (okX_ok e h1) hs
        · cases hk
      · cases hk
    · cases hk
  · cases hk
theorem fldn_c {off k : Nat} {x : X} (e : ER n ι st fr a) (hr : Rel ι h w) (hk : kFldn Pg n o off k x = true) (hs : (cFldn off k x st fr h).safe) : OpOK Pg a o w ι h (cFldn off k x st fr h) := by
  unfold kFldn at hk
  split at hk
  · simp only [Bool.and_eq_true] at hk
    obtain ⟨h1, hk⟩ := hk
    split at hk
    · split at hk
      · simp only [Bool.and_eq_true] at hk
        obtain ⟨⟨h2, h3⟩, hk⟩ := hk
        split at h3
        · split at hk
          · exact ok_fldn hr (by assumption) (by assumption) (by assumption) (beq_spec h2) (by assumption) h3 (by assumption) (beq_spec hk) (okX_ok e h1) hs
          · cases hk
        · cases h3
      · cases hk
    · cases hk
  · cases hk
theorem ixa_c {es : Nat} {x i : X} (e : ER n ι st fr a) (hr : Rel ι h w) (hk : kIxa Pg n o es x i = true) (hs : (cIxa es x i st fr h).safe) : OpOK Pg a o w ι h (cIxa es x i st fr h) := by
  unfold kIxa at hk
  split at hk
  · simp only [Bool.and_eq_true] at hk
    obtain ⟨⟨h1, h2⟩, hk⟩ := hk
    split at hk
    · split at hk
      · exact ok_ixa hr (by assumption) (by assumption) (by assumption) (beq_spec hk) (okX_ok e h1) (okX_ok e h2) hs
      · cases hk
    · cases hk
  · cases hk
theorem ixarr_c {es m : Nat} {x i : X} (e : ER n ι st fr a) (hr : Rel ι h w) (hk : kIxarr Pg n o es m x i = true) (hs : (cIxarr es m x i st fr h).safe) : OpOK Pg a o w ι h (cIxarr es m x i st fr h) := by
  unfold kIxarr at hk
  split at hk
  · simp only [Bool.and_eq_true] at hk
    obtain ⟨⟨h1, h2⟩, hk⟩ := hk
    split at hk
    · simp only [Bool.and_eq_true] at hk
      obtain ⟨h3, hk⟩ := hk
      obtain rfl := beq_spec h3
      split at hk
      · exact ok_ixarr hr (by assumption) (by assumption) (by assumption) (beq_spec hk) (okX_ok e h1) (okX_ok e h2) hs
      · cases hk
    · cases hk
  · cases hk
theorem ixs_c {x i : X} (e : ER n ι st fr a) (hr : Rel ι h w) (hk : kIxs Pg n o x i = true) (hs : (cIxs x i st fr h).safe) : OpOK Pg a o w ι h (cIxs x i st fr h) := by
  unfold kIxs at hk
  split at hk
  · simp only [Bool.and_eq_true] at hk
    exact ok_ixs hr (by assumption) (isStr_spec hk.2) (okX_ok e hk.1.1) (okX_ok e hk.1.2) hs
  · cases hk
theorem ixag_c {es m : Nat} {agg : Bool} {x i : X} (e : ER n ι st fr a) (hr : Rel ι h w) (hk : kIxag Pg n o es m agg x i = true) (hs : (cIxag es m agg x i st fr h).safe) : OpOK Pg a o w ι h (cIxag es m agg x i st fr h) := by
  unfold kIxag at hk
  split at hk
  · simp only [Bool.and_eq_true] at hk
    obtain ⟨⟨h1, h2⟩, hk⟩ := hk
    split at hk
    · simp only [Bool.and_eq_true] at hk
      obtain ⟨⟨h3, h4⟩, hk⟩ := hk
      obtain rfl := beq_spec h3
      split at h4
      · split at hk
        · exact ok_ixag hr (by assumption) (by assumption) (by assumption) (beq_spec h4) (by assumption) (of_decide_eq_true hk) (okX_ok e h1) (okX_ok e h2) hs
        · cases hk
      · cases h4
    · cases hk
  · cases hk
theorem asr_c {t : Nat} {ok : Bool} {z : V} {x : X} (e : ER n ι st fr a) (hr : Rel ι h w) (hk : kAsr Pg n o t ok z x = true) (hs : (cAsr t ok z x st fr h).safe) : OpOK Pg a o w ι h (cAsr t ok z x st fr h) := by
  unfold kAsr at hk
  split at hk
  · simp only [Bool.and_eq_true, decide_eq_true_eq] at hk
    obtain ⟨⟨⟨⟨h1, h2⟩, rfl⟩, h3⟩, hk⟩ := hk
    obtain rfl := beq_spec h2
    split at h3
    · split at hk
      · split at hk
        · simp only [Bool.not_eq_true'] at h3
          exact ok_asr hr (by assumption) (by assumption) h3 (by assumption) (by assumption) hk (okX_ok e h1) hs
        · cases hk
      · cases hk
    · cases h3
  · cases hk
theorem ext_c {i : Nat} {x : X} (e : ER n ι st fr a) (hr : Rel ι h w) (hk : kExt n o i x = true) (hs : (cExt i x st fr h).safe) : OpOK Pg a o w ι h (cExt i x st fr h) := by
  unfold kExt at hk
  split at hk
  · simp only [Bool.and_eq_true] at hk
    obtain rfl := beq_spec hk.2
    exact ok_ext hr (by assumption) (okX_ok e hk.1) hs
  · cases hk
theorem lenc_c {m : Nat} (e : ER n ι st fr a) (hr : Rel ι h w) (hk : kLenc Pg o m = true) (hs : (cLenc m st fr h).safe) : OpOK Pg a o w ι h (cLenc m st fr h) := by
  unfold kLenc at hk
  split at hk
  · rename_i y t hc
    have ho := callB_spec hc
    split at hk
    · obtain rfl := beq_spec hk
      exact ok_lenc hr ho (.inl ⟨_, by assumption⟩)
    · rename_i p hu
      split at hk
      · obtain rfl := beq_spec hk
        exact ok_lenc hr ho (.inr ⟨p, _, hu, by assumption⟩)
      · cases hk
    · cases hk
  · cases hk
theorem lenS_c {x : X} (e : ER n ι st fr a) (hr : Rel ι h w) (hk : kLenS Pg n o x = true) (hs : (cLenS x st fr h).safe) : OpOK Pg a o w ι h (cLenS x st fr h) := by
  unfold kLenS at hk
  split at hk
  · rename_i y t hc
    simp only [Bool.and_eq_true] at hk
    exact ok_lenS hr (callB_spec hc) (isStr_spec hk.2) (okX_ok e hk.1) hs
  · cases hk
theorem lenL_c {x : X} (e : ER n ι st fr a) (hr : Rel ι h w) (hk : kLenL Pg n o x = true) (hs : (cLenL x st fr h).safe) : OpOK Pg a o w ι h (cLenL x st fr h) := by
  unfold kLenL at hk
  split at hk
  · rename_i y t hc
    simp only [Bool.and_eq_true] at hk
    obtain ⟨h1, hk⟩ := hk
    split at hk
    · exact ok_lenL hr (callB_spec hc) (by assumption) (okX_ok e h1) hs
    · cases hk
  · cases hk
theorem lenM_c {x : X} (e : ER n ι st fr a) (hr : Rel ι h w) (hk : kLenM Pg n o x = true) (hs : (cLenM x st fr h).safe) : OpOK Pg a o w ι h (cLenM x st fr h) := by
  unfold kLenM at hk
  split at hk
  · rename_i y t hc
    simp only [Bool.and_eq_true] at hk
    obtain ⟨h1, hk⟩ := hk
    split at hk
    · exact ok_lenM hr (callB_spec hc) (by assumption) (okX_ok e h1) hs
    · cases hk
  · cases hk
theorem appe_c {es bytes : Nat} {s x : X} (e : ER n ι st fr a) (hr : Rel ι h w) (hk : kAppe Pg n o es bytes s x = true) (hs : (cAppe es bytes s x st fr h).safe) : OpOK Pg a o w ι h (cAppe es bytes s x st fr h) := by
  unfold kAppe at hk
  split at hk
  · rename_i s' x' t t2 hc
    simp only [Bool.and_eq_true] at hk
    obtain ⟨⟨⟨⟨⟨h1, h2⟩, h3⟩, h4⟩, h5⟩, hk⟩ := hk
    have ht2 : Pg.underlying t2 = some .string ∨ ∃ e2, Pg.underlying t2 = some (.slice e2) := by
      split at h5
      · exact .inl (by assumption)
      · exact .inr ⟨_, by assumption⟩
      · cases h5
    split at hk
    · rename_i e' hu
      split at hk
      · rename_i i hi
        split at hk
        · rename_i zv hz
          simp only [Bool.and_eq_true] at hk
          exact ok_appe hr (callB_spec hc) hu hi hz (beq_spec hk.1.1) (beq_spec hk.1.2) (beq_spec hk.2) (nbeq_spec h3) (nbeq_spec h4) ht2 (okX_ok e h1) (okX_ok e h2) hs
        · cases hk
      · cases hk
    · cases hk
  · cases hk
theorem mx_c {xs : List X} (e : ER n ι st fr a) (hr : Rel ι h w) (hk : kMx n o xs = true) (hs : (cMx xs st fr h).safe) : OpOK Pg a o w ι h (cMx xs st fr h) := by
  unfold kMx at hk
  split at hk
  · exact ok_mx hr (callB_spec (by assumption)) (okXs_ok e hk) hs
  · cases hk
theorem mn_c {xs : List X} (e : ER n ι st fr a) (hr : Rel ι h w) (hk : kMn n o xs = true) (hs : (cMn xs st fr h).safe) : OpOK Pg a o w ι h (cMn xs st fr h) := by
  unfold kMn at hk
  split at hk
  · exact ok_mn hr (callB_spec (by assumption)) (okXs_ok e hk) hs
  · cases hk
theorem lk_c {kk : KyK} {ok : Bool} {z : V} {m k : X} (e : ER n ι st fr a) (hr : Rel ι h w) (hk : kLk Pg n o kk ok z m k = true) (hs : (cLk kk ok z m k st fr h).safe) : OpOK Pg a o w ι h (cLk kk ok z m k st fr h) := by
  unfold kLk at hk
  split at hk
  · simp only [Bool.and_eq_true, decide_eq_true_eq] at hk
    obtain ⟨⟨⟨h1, h2⟩, h3⟩, hk⟩ := hk
    subst h3
    split at hk
    · simp only [Bool.and_eq_true] at hk
      obtain ⟨h4, hk⟩ := hk
      split at hk
      · split at hk
        · exact ok_lk hr (by assumption) (by assumption) h4 (by assumption) (by assumption) hk (okX_ok e h1) (okX_ok e h2) hs
        · cases hk
      · cases hk
    · cases hk
  · cases hk
theorem mset_c {kk : KyK} {m k x : X} (e : ER n ι st fr a) (hr : Rel ι h w) (hk : kMset Pg n o kk m k x = true) (hs : (cMset kk m k x st fr h).safe) : OpOK Pg a o w ι h (cMset kk m k x st fr h) := by
  unfold kMset at hk
  split at hk
  · simp only [Bool.and_eq_true] at hk
    obtain ⟨⟨⟨h1, h2⟩, h3⟩, hk⟩ := hk
    split at hk
    · exact ok_mset hr (.inl (by assumption)) (by assumption) hk (okX_ok e h1) (okX_ok e h2) (okX_ok e h3) hs
    · cases hk
  · simp only [Bool.and_eq_true] at hk
    obtain ⟨⟨⟨h1, h2⟩, h3⟩, hk⟩ := hk
    split at hk
    · exact ok_mset hr (.inr (by assumption)) (by assumption) hk (okX_ok e h1) (okX_ok e h2) (okX_ok e h3) hs
    · cases hk
  · cases hk
theorem del_c {kk : KyK} {m k : X} (e : ER n ι st fr a) (hr : Rel ι h w) (hk : kDel Pg n o kk m k = true) (hs : (cDel kk m k st fr h).safe) : OpOK Pg a o w ι h (cDel kk m k st fr h) := by
  unfold kDel at hk
  split at hk
  · rename_i hc
    simp only [Bool.and_eq_true] at hk
    obtain ⟨⟨h1, h2⟩, hk⟩ := hk
    split at hk
    · exact ok_del hr (callB_spec hc) (by assumption) hk (okX_ok e h1) (okX_ok e h2) hs
    · cases hk
  · cases hk
theorem cap_c {x : X} (e : ER n ι st fr a) (hr : Rel ι h w) (hk : kCap Pg n o x = true) (hs : (cCap x st fr h).safe) : OpOK Pg a o w ι h (cCap x st fr h) := by
  unfold kCap at hk
  split at hk
  · rename_i y t hc
    simp only [Bool.and_eq_true] at hk
    obtain ⟨h1, hk⟩ := hk
    split at hk
    · exact ok_cap hr (callB_spec hc) (by assumption) (okX_ok e h1) hs
    · cases hk
  · cases hk
theorem clr_c {z : List V} {x : X} (e : ER n ι st fr a) (hr : Rel ι h w) (hk : kClr Pg n o z x = true) (hs : (cClr z x st fr h).safe) : OpOK Pg a o w ι h (cClr z x st fr h) := by
  unfold kClr at hk
  split at hk
  · rename_i y t hc
    simp only [Bool.and_eq_true] at hk
    obtain ⟨h1, hk⟩ := hk
    split at hk
    · split at hk
      · split at hk
        · simp only [Bool.and_eq_true] at hk
          exact ok_clr hr (callB_spec hc) (by assumption) (by assumption) (by assumption) hk.1 (nbeq_spec hk.2) (okX_ok e h1) hs
        · cases hk
      · cases hk
    · cases hk
  · cases hk
theorem rng_c {x : X} (e : ER n ι st fr a) (hr : Rel ι h w) (hk : kRng Pg n o x = true) (hs : (cRng x st fr h).safe) : OpOK Pg a o w ι h (cRng x st fr h) := by
  unfold kRng at hk
  split at hk
  · simp only [Bool.and_eq_true] at hk
    obtain ⟨h1, hk⟩ := hk
    split at hk
    · exact ok_rng hr (by assumption) (by assumption) (okX_ok e h1) hs
    · cases hk
  · cases hk
theorem nxt_c {isStr : Bool} {x : X} (e : ER n ι st fr a) (hr : Rel ι h w) (hk : kNxt n o isStr x = true) (hs : (cNxt isStr x st fr h).safe) : OpOK Pg a o w ι h (cNxt isStr x st fr h) := by
  unfold kNxt at hk
  split at hk
  · simp only [Bool.and_eq_true, Bool.not_eq_true'] at hk
    obtain ⟨⟨h1, h2⟩, h3⟩ := hk
    subst h2 h3
    exact ok_nxt hr rfl (by assumption) (okX_ok e h1) hs
  · cases hk
theorem ent_c {x : X} (e : ER n ι st fr a) (hr : Rel ι h w) (hk : kEnt n o x = true) (hs : (cEnt x st fr h).safe) : OpOK Pg a o w ι h (cEnt x st fr h) := by
  unfold kEnt at hk
  split at hk
  · exact ok_ent hr (by assumption) (okX_ok e hk) hs
  · cases hk
theorem chk_ok (Pg : Program) : ChkOK Pg (chk Pg) := by
  intro n o c a w ι h st fr hk e hr hs
  cases c
  case rng => exact rng_c e hr hk hs
  case nxt => exact nxt_c e hr hk hs
  case ent => exact ent_c e hr hk hs
  case clr => exact clr_c e hr hk hs
  case lk => exact lk_c e hr hk hs
  case mset => exact mset_c e hr hk hs
  case del => exact del_c e hr hk hs
  case cap => exact cap_c e hr hk hs
  case mx => exact mx_c e hr hk hs
  case mn => exact mn_c e hr hk hs
  case mv => exact mv_c e hr hk hs
  case pick => exact pick_c e hr hk hs
  case alloc => exact alloc_c e hr hk hs
  case box => exact box_c e hr hk hs
  case build => exact build_c e hr hk hs
  case bslice => exact bslice_c e hr hk hs
  case ld => exact ld_c e hr hk hs
  case ldn => exact ldn_c e hr hk hs
  case st => exact st_c e hr hk hs
  case nck => exact nck_c e hr hk hs
  case ar => exact ar_c e hr hk hs
  case cmp => exact cmp_c e hr hk hs
  case bits => exact bits_c e hr hk hs
  case shl => exact shl_c e hr hk hs
  case shr => exact shr_c e hr hk hs
  case sadd => exact sadd_c e hr hk hs
  case scmp => exact scmp_c e hr hk hs
  case eqv => exact eqv_c e hr hk hs
  case neg => exact neg_c e hr hk hs
  case not => exact not_c e hr hk hs
  case xorU => exact xorU_c e hr hk hs
  case i2i => exact i2i_c e hr hk hs
  case i2s => exact i2s_c e hr hk hs
  case s2s => exact s2s_c e hr hk hs
  case s2b => exact s2b_c e hr hk hs
  case b2s => exact b2s_c e hr hk hs
  case mkif => exact mkif_c e hr hk hs
  case mkfn => exact mkfn_c e hr hk hs
  case mkmap => exact mkmap_c e hr hk hs
  case mksl => exact mksl_c e hr hk hs
  case sls => exact sls_c e hr hk hs
  case slc => exact slc_c e hr hk hs
  case slarr => exact slarr_c e hr hk hs
  case fa => exact fa_c e hr hk hs
  case fld => exact fld_c e hr hk hs
  case fldn => exact fldn_c e hr hk hs
  case ixa => exact ixa_c e hr hk hs
  case ixarr => exact ixarr_c e hr hk hs
  case ixs => exact ixs_c e hr hk hs
  case ixag => exact ixag_c e hr hk hs
  case asr => exact asr_c e hr hk hs
  case ext => exact ext_c e hr hk hs
  case lenc => exact lenc_c e hr hk hs
  case lenS => exact lenS_c e hr hk hs
  case lenL => exact lenL_c e hr hk hs
  case lenM => exact lenM_c e hr hk hs
  case appe => exact appe_c e hr hk hs
  all_goals cases hk
end
end Go.Am
namespace Go.Am

def reEx : RE → Exit
  | .norm => .normal
  | .exit id => .exit id
  | .ret => .ret
/-- what holds behind a piece of code -/
def CPost (n : Nm) (ι : Io) (h : H) (w : World) (a : Act) (r : RO) : Exit → Act → World → Prop := fun e a' w' =>
  ∃ re fr' h' ι', r.Leaf re fr' h' ∧ e = reEx re ∧ ER n ι' [] fr' a' ∧ Step ι h w ι' h' w' ∧ a'.defers = a.defers
def okK (chk : Nm → Oper → C → Bool) (okD : Nm → List Nat → Array Oper → List It → Bool) (n : Nm) : Code → K → Bool
  | .skip, .skip => true
  | .region _ ops draw, .reg ord its => cond draw (okD n ord ops its) (okIts chk ops n its (List.range ops.size))
  | .seq a b, .seq a' b' => okK chk okD n a a' && okK chk okD n b b'
  | .cond c a b, .cond x a' b' => okX n c x && okK chk okD n a a' && okK chk okD n b b'
  | .block i a, .block j a' => Nat.beq i j && okK chk okD n a a'
  | .loop a, .loop a' => okK chk okD n a a'
  | .exit i, .exit j => Nat.beq i j
  | .ret, .ret => true
  | _, _ => false
/-- what checks a region whose order is drawn -/
def DOK (Pg : Program) (okD : Nm → List Nat → Array Oper → List It → Bool) : Prop :=
  ∀ (cf : CallF) (n : Nm) (id : Nat) (ord : List Nat) (ops : Array Oper) (its : List It) (ι : Io) (fr : Fr) (h : H) (a : Act) (w : World), CfOK Pg n.ng cf → n.base = n → okD n ord ops its = true → ER n ι [] fr a → Rel ι h w → (runIts cf its [] fr h).safe →
    (Code.region id ops true).wp Pg (CPost n ι h w a (runIts cf its [] fr h)) a w

theorem loop_fuel {Pg : Program} {c : Code} {Q : Exit → Act → World → Prop} {I : Nat → Act → World → Prop} (h0 : ∀ a w, ¬ I 0 a w)
    (h1 : ∀ k a w, I (k + 1) a w → c.wp Pg (Exit.then (fun a' w' => I k a' w') Q) a w) (k : Nat) (a : Act) (w : World) (h : I k a w) : (Code.loop c).wp Pg Q a w := by
  intro b kk cs
  have key : ∀ n a w, I n a w → ∃ e a' w', Q e a' w' ∧ Arrives Pg (lone (b.at a (.code c :: .inLoop c :: kk)) cs w) b kk cs e a' w' := by
    intro n
    induction n with
    | zero => intro a w h; exact (h0 a w h).elim
    | succ n ih =>
      intro a w hI
      obtain ⟨e, a₁, w₁, hq, harr⟩ := h1 n a w hI b (.inLoop c :: kk) cs
      cases e with
      | normal =>
        obtain ⟨e₂, a₂, w₂, hq₂, harr₂⟩ := ih a₁ w₁ hq
        exact ⟨e₂, a₂, w₂, hq₂, .of_steps (Steps.trans harr (.one step_inLoop)) harr₂⟩
      | exit id => exact ⟨_, a₁, w₁, hq, .pass (x := .inLoop c) rfl (fun _ _ => .inl (by simp)) harr⟩
      | goto l => exact ⟨_, a₁, w₁, hq, .pass (x := .inLoop c) rfl (fun _ _ => .inl (by simp)) harr⟩
      | ret => exact ⟨_, a₁, w₁, hq, .pass (x := .inLoop c) rfl (fun _ _ => .inl (by simp)) harr⟩
      | panic ch => exact ⟨_, a₁, w₁, hq, .pass (x := .inLoop c) rfl (fun _ _ => .inl (by simp)) harr⟩
      | outgrown => exact ⟨_, a₁, w₁, hq, .pass (x := .inLoop c) rfl (fun _ _ => .inl (by simp)) harr⟩
  obtain ⟨e, a', w', hq, harr⟩ := key k a w h
  exact ⟨e, a', w', hq, .of_steps (.one step_loop) harr⟩

section
variable {Pg : Program} {n : Nm} {chk : Nm → Oper → C → Bool} {okD : Nm → List Nat → Array Oper → List It → Bool} {cf : CallF} {loops : Nat}

theorem CPost.then {ι : Io} {h : H} {w : World} {a : Act} {r : RO} {f : Fr → H → RO} {K : Act → World → Prop}
    (hK : ∀ fr' h' ι' a' w', r.Leaf .norm fr' h' → ER n ι' [] fr' a' → Step ι h w ι' h' w' → a'.defers = a.defers → K a' w') :
    ∀ e a' w', CPost n ι h w a r e a' w' → Exit.then K (CPost n ι h w a (after r f)) e a' w' := by
  rintro e a' w' ⟨re, fr', h', ι', hl, rfl, he, hst, hd⟩
  cases re with
  | norm => exact hK fr' h' ι' a' w' hl he hst hd
  | exit id => exact ⟨.exit id, fr', h', ι', after_leaf' (by simp) hl, rfl, he, hst, hd⟩
  | ret => exact ⟨.ret, fr', h', ι', after_leaf' (by simp) hl, rfl, he, hst, hd⟩
theorem CPost.trans {ι ι1 : Io} {h h1 : H} {w w1 : World} {a a1 : Act} {r r1 : RO} (hst : Step ι h w ι1 h1 w1) (hd : a1.defers = a.defers) (hl : ∀ e fr' h', r1.Leaf e fr' h' → r.Leaf e fr' h') :
    ∀ e a' w', CPost n ι1 h1 w1 a1 r1 e a' w' → CPost n ι h w a r e a' w' := by
  rintro e a' w' ⟨re, fr', h', ι', hl1, he, her, hst1, hd1⟩
  exact ⟨re, fr', h', ι', hl _ _ _ hl1, he, her, hst.trans hst1, hd1.trans hd⟩

theorem code_ok (hchk : ChkOK Pg chk) (hD : DOK Pg okD) (hcf : CfOK Pg n.ng cf) (hn : n.base = n) : ∀ (c : Code) (k : K) (ι : Io) (fr : Fr) (h : H) (a : Act) (w : World), okK chk okD n c k = true → ER n ι [] fr a → Rel ι h w → (exec cf loops k fr h).safe →
    c.wp Pg (CPost n ι h w a (exec cf loops k fr h)) a w := by
  intro c
  induction c with
  | skip =>
    intro k ι fr h a w hk e hr hs
    cases k <;> try (cases hk; done)
    exact wp_skip ⟨.norm, fr, h, ι, .norm _ _, rfl, e, Step.refl hr, rfl⟩
  | region id ops draw =>
    intro k ι fr h a w hk e hr hs
    cases k <;> try (cases hk; done)
    rename_i id' its
    cases draw with
    | true => exact hD cf n id id' ops its ι fr h a w hcf hn hk e hr hs
    | false =>
      refine wp_region (its_ok hchk its (List.range ops.size) n ι [] fr h a w hcf hk e hr hs ?_)
      intro fr' h' ι' a' w' hl he hst hd
      rw [hn] at he
      exact ⟨.norm, fr', h', ι', hl, rfl, he, hst, hd⟩
  | seq x y ihx ihy =>
    intro k ι fr h a w hk e hr hs
    cases k <;> try (cases hk; done)
    rename_i x' y'
    simp only [okK, Bool.and_eq_true] at hk
    have hs : (after (exec cf loops x' fr h) (exec cf loops y')).safe := hs
    obtain ⟨s1, s2⟩ := after_safe hs
    refine wp_seq (wp_mono (ihx x' ι fr h a w hk.1 e hr s1) (CPost.then (f := exec cf loops y') ?_))
    intro fr' h' ι' a' w' hl he hst hd
    exact wp_mono (ihy y' ι' fr' h' a' w' hk.2 he hst.rel (s2 fr' h' hl)) (CPost.trans hst hd fun _ _ _ l2 => after_leaf hl l2)
  | cond x b c ihb ihc =>
    intro k ι fr h a w hk e hr hs
    cases k <;> try (cases hk; done)
    rename_i x' b' c'
    simp only [okK, Bool.and_eq_true] at hk
    obtain ⟨⟨hx, hb⟩, hc⟩ := hk
    have hv := okX_ok e hx
    have hs : (kCond (x'.ev [] fr) (exec cf loops b' fr h) (exec cf loops c' fr h)).safe := hs
    show (Code.cond x b c).wp Pg (CPost n ι h w a (kCond (x'.ev [] fr) (exec cf loops b' fr h) (exec cf loops c' fr h))) a w
    cases hxv : x'.ev [] fr with
    | bool t =>
      rw [hxv] at hs hv
      have hxe : a.eval x = .bool t := by
        generalize a.eval x = u at hv
        cases hv; rfl
      cases t with
      | true => exact wp_cond_true hxe (ihb b' ι fr h a w hb e hr hs)
      | false => exact wp_cond_false hxe (ihc c' ι fr h a w hc e hr hs)
    | _ => rw [hxv] at hs; exact hs.elim
  | block id b ih =>
    intro k ι fr h a w hk e hr hs
    cases k <;> try (cases hk; done)
    rename_i id' b'
    simp only [okK, Bool.and_eq_true, natBeq_iff] at hk
    obtain ⟨rfl, hb⟩ := hk
    have hs : (kBlock id (exec cf loops b' fr h)).safe := hs
    refine wp_block (wp_mono (ih b' ι fr h a w hb e hr (kBlock_safe hs)) ?_)
    rintro ex a' w' ⟨re, fr', h', ι', hl, rfl, he, hst, hd⟩
    have hl2 := kBlock_leaf (id := id) hl
    cases re with
    | norm => exact ⟨.norm, fr', h', ι', hl2, rfl, he, hst, hd⟩
    | ret => exact ⟨.ret, fr', h', ι', hl2, rfl, he, hst, hd⟩
    | exit i =>
      have hl3 : (kBlock id (exec cf loops b' fr h)).Leaf (cond (Nat.beq i id) .norm (.exit i)) fr' h' := hl2
      show if i = id then _ else _
      by_cases hi : i = id
      · rw [if_pos hi]
        rw [show Nat.beq i id = true from (natBeq_iff _ _).2 hi] at hl3
        exact ⟨.norm, fr', h', ι', hl3, rfl, he, hst, hd⟩
      · rw [if_neg hi]
        rw [show Nat.beq i id = false from by rw [Bool.eq_false_iff]; exact fun hb => hi ((natBeq_iff _ _).1 hb)] at hl3
        exact ⟨.exit i, fr', h', ι', hl3, rfl, he, hst, hd⟩
  | loop b ih =>
    intro k ι fr h a w hk e hr hs
    cases k <;> try (cases hk; done)
    rename_i b'
    have hk : okK chk okD n b b' = true := hk
    have hs : (iter (exec cf loops b') loops fr h).safe := hs
    refine loop_fuel (I := fun m a1 w1 => ∃ fr1 h1 ι1, ER n ι1 [] fr1 a1 ∧ Step ι h w ι1 h1 w1 ∧ a1.defers = a.defers ∧ (iter (exec cf loops b') m fr1 h1).safe ∧ ∀ re fr' h', (iter (exec cf loops b') m fr1 h1).Leaf re fr' h' → (iter (exec cf loops b') loops fr h).Leaf re fr' h')
      (fun a1 w1 ⟨_, _, _, _, _, _, hs, _⟩ => hs.elim) ?_ loops a w ⟨fr, h, ι, e, Step.refl hr, rfl, hs, fun _ _ _ l => l⟩
    rintro m a1 w1 ⟨fr1, h1, ι1, e1, st1, d1, s1, l1⟩
    have s1 : (after (exec cf loops b' fr1 h1) (iter (exec cf loops b') m)).safe := s1
    have l1 : ∀ re fr' h', (after (exec cf loops b' fr1 h1) (iter (exec cf loops b') m)).Leaf re fr' h' → (iter (exec cf loops b') loops fr h).Leaf re fr' h' := l1
    obtain ⟨s2, s3⟩ := after_safe s1
    refine wp_mono (ih b' ι1 fr1 h1 a1 w1 hk e1 st1.rel s2) ?_
    rintro ex a' w' ⟨re, fr', h', ι', hl, rfl, he, hst, hd⟩
    cases re with
    | norm => exact ⟨fr', h', ι', he, st1.trans hst, hd.trans d1, s3 fr' h' hl, fun re fr2 h2 l2 => l1 _ _ _ (after_leaf hl l2)⟩
    | exit i => exact ⟨.exit i, fr', h', ι', l1 _ _ _ (after_leaf' (by simp) hl), rfl, he, st1.trans hst, hd.trans d1⟩
    | ret => exact ⟨.ret, fr', h', ι', l1 _ _ _ (after_leaf' (by simp) hl), rfl, he, st1.trans hst, hd.trans d1⟩
  | exit id =>
    intro k ι fr h a w hk e hr hs
    cases k <;> try (cases hk; done)
    rename_i id'
    have hk : Nat.beq id id' = true := hk
    rw [natBeq_iff] at hk
    subst hk
    exact wp_exit ⟨.exit id, fr, h, ι, .exit _ _ _, rfl, e, Step.refl hr, rfl⟩
  | ret =>
    intro k ι fr h a w hk e hr hs
    cases k <;> try (cases hk; done)
    exact wp_ret ⟨.ret, fr, h, ι, .ret _ _, rfl, e, Step.refl hr, rfl⟩
  | _ => intro k ι fr h a w hk e hr hs; cases k <;> cases hk
end
end Go.Am
namespace Go.Am

def okRes (ty : Nat → Option TyInfo) : List ResultVar → List RV → Bool
  | [], [] => true
  | .tmp t :: rs, .tmp p :: l => Nat.beq p.num t && okRes ty rs l
  | .cell a t :: rs, .cell p :: l => Nat.beq p.num a && (match ty t with | some x => !(aggD x.u) | none => false) && okRes ty rs l
  | .cell a t :: rs, .celln p n :: l => Nat.beq p.num a && (match ty t with | some x => aggD x.u && Nat.beq x.size n | none => false) && okRes ty rs l
  | _, _ => false

def resF (tmps : Array Value) : ResultVar → Sem Value
  | .tmp t => pure (tmps.getD t undef)
  | .cell a t => do loadVar t (← asAddr (tmps.getD a undef))
theorem results_eq (fn : Func) (tmps : Array Value) : results fn tmps = (do
    let vs ← fn.results.mapM (resF tmps)
    pure (if h : vs.size = 1 then vs[0] else .tuple vs)) := rfl

section
variable {Pg : Program} {n : Nm} {ι : Io} {fr : Fr} {a : Act} {w : World} {h : H} {ty : Nat → Option TyInfo}

theorem resOf_cons {r : RV} {l : List RV} {vs : List V} (h1 : resOf fr h (r :: l) = some vs) : ∃ v vs1, res1 fr h r = some v ∧ resOf fr h l = some vs1 ∧ vs = v :: vs1 := by
  have h2 : Option.casesOn (motive := fun _ => Option (List V)) (resOf fr h l) none (fun vs => Option.casesOn (motive := fun _ => Option (List V)) (res1 fr h r) none (fun v => some (v :: vs))) = some vs := h1
  cases e1 : resOf fr h l with
  | none => rw [e1] at h2; cases h2
  | some vs1 =>
    rw [e1] at h2
    have h3 : Option.casesOn (motive := fun _ => Option (List V)) (res1 fr h r) none (fun v => some (v :: vs1)) = some vs := h2
    cases e2 : res1 fr h r with
    | none => rw [e2] at h3; cases h3
    | some v => rw [e2] at h3; exact ⟨v, vs1, rfl, rfl, (Option.some.inj h3).symm⟩
theorem res1_cell {p : P} {v : V} (h1 : res1 fr h (.cell p) = some v) : ∃ b o cs, fr.get p = some (.ptr b o) ∧ h.cells b = some cs ∧ nth cs o = some v := by
  unfold res1 at h1
  dsimp only at h1
  split at h1
  · rename_i b o hp
    split at h1
    · rename_i cs hc; exact ⟨b, o, cs, hp, hc, h1⟩
    · cases h1
  · cases h1
theorem res1_celln {p : P} {m : Nat} {v : V} (h1 : res1 fr h (.celln p m) = some v) : ∃ b o cs, fr.get p = some (.ptr b o) ∧ h.read b o m = some cs ∧ v = .agg cs := by
  unfold res1 at h1
  dsimp only at h1
  split at h1
  · rename_i b o hp
    split at h1
    · rename_i cs hc; exact ⟨b, o, cs, hp, hc, (Option.some.inj h1).symm⟩
    · cases h1
  · cases h1

theorem res_ok (hty : TyOk Pg ty) (e : ER n ι [] fr a) (hd : n.dirty = []) (hr : Rel ι h w) : ∀ {rs : List ResultVar} {l : List RV} {vs : List V}, okRes ty rs l = true → resOf fr h l = some vs → ∃ vs', (rs.mapM (resF a.tmps)).run Pg w = .ok vs' w ∧ VRs ι vs vs'
  | [], [], vs, _, h1 => by
    obtain rfl := Option.some.inj (show some [] = some vs from h1)
    exact ⟨[], by simp, VRs.nil ι⟩
  | .tmp t :: rs, .tmp p :: l, vs, hk, h1 => by
    obtain ⟨v, vs1, e1, e2, rfl⟩ := resOf_cons h1
    simp only [okRes, Bool.and_eq_true, natBeq_iff] at hk
    obtain ⟨rfl, hk⟩ := hk
    obtain ⟨vs', e3, e4⟩ := res_ok hty e hd hr hk e2
    exact ⟨_ :: vs', by simp [List.mapM_cons, resF, e3], VRs.cons ((e.fr p v e1).2 (by rw [hd]; simp)) e4⟩
  | .cell q t :: rs, .cell p :: l, vs, hk, h1 => by
    obtain ⟨v, vs1, e1, e2, rfl⟩ := resOf_cons h1
    simp only [okRes, Bool.and_eq_true, natBeq_iff] at hk
    obtain ⟨⟨rfl, ht⟩, hk⟩ := hk
    obtain ⟨vs', e3, e4⟩ := res_ok hty e hd hr hk e2
    cases hx : ty t with
    | none => rw [hx] at ht; cases ht
    | some x =>
      rw [hx] at ht
      simp only [Bool.not_eq_true'] at ht
      obtain ⟨hu, i, hi, hsz, _⟩ := hty t x hx
      obtain ⟨b, o, cs, hf, hc, hn⟩ := res1_cell e1
      obtain ⟨lc, hl, hy⟩ := ((e.fr p _ hf).2 (by rw [hd]; simp)).ptr_inv
      obtain ⟨ro, hb⟩ := H.cells_some hc
      obtain ⟨l', cur, fz, hl', hg, _, _, _, hval⟩ := hr.row hb
      rw [hl] at hl'
      obtain rfl := Option.some.inj hl'
      rw [nth_eq] at hn
      obtain ⟨v', h5, h6, _⟩ := hval o v hn
      have hagg : (isAgg t).run Pg w = .ok false w := by
        simp only [isAgg, Sem.run_bind, run_underlying hu, Result.andThen_ok]
        cases hxu : x.u <;> rw [hxu] at ht <;> simp [aggD] at ht ⊢
      have hc2 : w.cell? ⟨lc.g, lc.d + o, none⟩ = some v' := by rw [cell_at hg]; exact h5
      refine ⟨v' :: vs', ?_, VRs.cons h6 e4⟩
      simp only [Array.getD_eq_getD_getElem?] at hy
      simp [List.mapM_cons, resF, hy, asAddr, loadVar, hagg, hc2, e3]
  | .cell q t :: rs, .celln p m :: l, vs, hk, h1 => by
    obtain ⟨v, vs1, e1, e2, rfl⟩ := resOf_cons h1
    simp only [okRes, Bool.and_eq_true, natBeq_iff] at hk
    obtain ⟨⟨rfl, ht⟩, hk⟩ := hk
    obtain ⟨vs', e3, e4⟩ := res_ok hty e hd hr hk e2
    cases hx : ty t with
    | none => rw [hx] at ht; cases ht
    | some x =>
      rw [hx] at ht
      simp only [Bool.and_eq_true, natBeq_iff] at ht
      obtain ⟨ha, hm⟩ := ht
      obtain ⟨hu, i, hi, hsz, _⟩ := hty t x hx
      obtain ⟨b, o, cs, hf, hc, rfl⟩ := res1_celln e1
      obtain ⟨lc, hl, hy⟩ := ((e.fr p _ hf).2 (by rw [hd]; simp)).ptr_inv
      obtain ⟨ws, hcr, hlen, hcell⟩ := hr.read hc hl
      have hagg : (isAgg t).run Pg w = .ok true w := by
        simp only [isAgg, Sem.run_bind, run_underlying hu, Result.andThen_ok]
        cases hxu : x.u <;> rw [hxu] at ha <;> simp [aggD] at ha ⊢
      have hl2 : (loadCells ⟨lc.g, lc.d + o, none⟩ m).run Pg w = .ok ws.toArray w := by
        have := run_loadCells_list (P := Pg) w ⟨lc.g, lc.d + o, none⟩ ws (fun j v hj => by rw [Addr.add_lit]; exact hcell j v hj)
        rw [hlen] at this
        exact this
      refine ⟨.agg ws.toArray :: vs', ?_, VRs.cons (VR.of_agg (by simpa using hcr)) e4⟩
      simp only [Array.getD_eq_getD_getElem?] at hy
      simp [List.mapM_cons, resF, hy, asAddr, loadVar, hagg, sizeOf, typeInfo, hi, hsz, hm, hl2, e3]
  | [], _ :: _, _, hk, _ => by cases hk
  | r :: _, [], _, hk, _ => by cases r <;> cases hk
  | .tmp _ :: _, .cell _ :: _, _, hk, _ => by cases hk
  | .tmp _ :: _, .celln _ _ :: _, _, hk, _ => by cases hk
  | .cell _ _ :: _, .tmp _ :: _, _, hk, _ => by cases hk

theorem ret_ok (hty : TyOk Pg ty) (e : ER n ι [] fr a) (hd : n.dirty = []) (hr : Rel ι h w) {fn : Func} {l : List RV} (hk : okRes ty fn.results.toList l = true) (hs : (retR fr h l).safe) :
    ∃ v v', (results fn a.tmps).run Pg w = .ok v' w ∧ (retR fr h l).Leaf v h ∧ VR ι v v' := by
  unfold retR at hs ⊢
  cases hv : resOf fr h l with
  | none => rw [hv] at hs; exact hs.elim
  | some vs =>
    obtain ⟨vs', e1, e2⟩ := res_ok hty e hd hr hk hv
    have hrun : (results fn a.tmps).run Pg w = .ok (if h : vs'.toArray.size = 1 then vs'.toArray[0] else .tuple vs'.toArray) w := by
      rw [results_eq, show fn.results = fn.results.toList.toArray from rfl, List.mapM_toArray]
      simp only [Sem.run_bind, Sem.run_map, e1, Result.andThen_ok, Sem.run_pure]
    refine ⟨packR vs, _, hrun, .ok _ _, ?_⟩
    cases vs with
    | nil =>
      rw [e2.nil_inv]
      exact .tup rfl (fun i v v' a => by simp at a)
    | cons v vs =>
      obtain ⟨v', t, rfl, hv1, hv2⟩ := e2.inv
      cases vs with
      | nil =>
        rw [hv2.nil_inv]
        exact hv1
      | cons u vs =>
        obtain ⟨u', t', rfl, hu1, hu2⟩ := hv2.inv
        rw [dif_neg (by simp)]
        exact .tup (by have := e2.1; simpa using this) (fun i x x' h1 h2 => e2.2 i x x' h1 (by simpa using h2))
end

/-! ### a function -/
def It.slots : List It → List Nat
  | [] => []
  | .keep p :: l => p.num :: It.slots l
  | .slot p _ :: l => p.num :: It.slots l
  | _ :: l => It.slots l
def K.slots : K → List Nat
  | .reg _ l => It.slots l
  | .seq a b => a.slots ++ b.slots
  | .cond _ a b => a.slots ++ b.slots
  | .block _ a => a.slots
  | .loop a => a.slots
  | _ => []
def nmOf (ng : Nat) (fn : Func) (f : AF) : Nm := ⟨ng, fn.ntmps, f.params.map P.num ++ f.body.slots, [], []⟩
def emptyT : T V → Bool
  | .nil => true
  | .node l v r => emptyT l && v.isNone && emptyT r
theorem emptyT_get : ∀ (t : T V) (p : P), emptyT t = true → t.get p = none
  | .nil, p, _ => T.get_nil p
  | .node l v r, .z, h => by
    simp only [emptyT, Bool.and_eq_true] at h
    show v = none
    cases v with
    | none => rfl
    | some => cases h.1.2
  | .node l v r, .l p, h => by
    simp only [emptyT, Bool.and_eq_true] at h
    exact emptyT_get l p h.1.1
  | .node l v r, .r p, h => by
    simp only [emptyT, Bool.and_eq_true] at h
    exact emptyT_get r p h.2
def okFn (chk : Nm → Oper → C → Bool) (okD : Nm → List Nat → Array Oper → List It → Bool) (ty : Nat → Option TyInfo) (ng : Nat) (fn : Func) (f : AF) : Bool :=
  emptyT f.sk && f.ext.isNone && decide (fn.name ≠ "runtime.NumGoroutine") && decide (f.params.map P.num = List.range f.params.length) && Nat.ble f.params.length fn.ntmps && okRes ty fn.results.toList f.res &&
    (match fn.body with | some c => okK chk okD (nmOf ng fn f) c f.body | none => false)

theorem initFr_some : ∀ {ps : List P} {vs : List V} {fr0 fr : Fr}, initFr ps vs fr0 = some fr → ps.length = vs.length ∧ ∀ (p : P) (v : V), fr.get p = some v → (∃ j : Nat, ps[j]? = some p ∧ vs[j]? = some v) ∨ fr0.get p = some v
  | [], [], fr0, fr, h => by
    obtain rfl := Option.some.inj (show some fr0 = some fr from h)
    exact ⟨rfl, fun p v hp => .inr hp⟩
  | [], _ :: _, _, _, h => by cases h
  | p :: ps, [], _, _, h => by cases h
  | p :: ps, v :: vs, fr0, fr, h => by
    obtain ⟨h1, h2⟩ := initFr_some (show initFr ps vs (fr0.set p v) = some fr from h)
    refine ⟨by simp [h1], fun q u hq => ?_⟩
    rcases h2 q u hq with ⟨j, e1, e2⟩ | h3
    · exact .inl ⟨j + 1, by simpa using e1, by simpa using e2⟩
    · rw [T.get_set] at h3
      split at h3
      · rename_i hpq
        obtain rfl := Option.some.inj h3
        exact .inl ⟨0, by simp [hpq], by simp⟩
      · exact .inr h3

theorem callFunc_enter {Pg : Program} {f : Nat} {fn : Func} {c : Code} {args : Array Value} {w : World} (hf : Pg.funcs[f]? = some fn) (hb : fn.body = some c) (hname : fn.name ≠ "runtime.NumGoroutine") :
    (callFunc f args).run Pg w = .ok (.enter f args) w := by
  simp [callFunc, hf, hb, hname]

theorem fn_ok {Pg : Program} {chk : Nm → Oper → C → Bool} {okD : Nm → List Nat → Array Oper → List It → Bool} {ty : Nat → Option TyInfo} {ng : Nat} {fn : Func} {f : AF} {g : Nat} {cf : CallF} {loops : Nat} (hchk : ChkOK Pg chk) (hD : DOK Pg okD) (hty : TyOk Pg ty) (hcf : CfOK Pg ng cf)
    (hk : okFn chk okD ty ng fn f = true) (hg : Pg.funcs[g]? = some fn) {vs : List V} {h : H} (hs : (callF cf loops f vs h).safe) {ι : Io} {w : World} {args : Array Value} (hr : Rel ι h w)
    (hglob : ∀ p : P, p.num < ng → ∃ l, ι p = some l ∧ l.g = p.num ∧ l.d = 0) (hargs : VRs ι vs args.toList) : FnOK Pg g args w (Post ι h w (callF cf loops f vs h)) := by
  simp only [okFn, Bool.and_eq_true, decide_eq_true_eq, natBle_iff] at hk
  obtain ⟨⟨⟨⟨⟨⟨hsk, hext⟩, hname⟩, hps⟩, hnt⟩, hres⟩, hbody⟩ := hk
  cases hb : fn.body with
  | none => rw [hb] at hbody; cases hbody
  | some c =>
    rw [hb] at hbody
    have hext : f.ext = none := by cases he : f.ext with | none => rfl | some => rw [he] at hext; cases hext
    have hcall : callF cf loops f vs h = onSome (initFr f.params vs f.sk) (fun fr => endR f.res (exec cf loops f.body fr h)) := by unfold callF; rw [hext]
    rw [hcall] at hs ⊢
    obtain ⟨fr, hfr, e⟩ := onSome_safe hs
    rw [e] at hs ⊢
    obtain ⟨h1, h2⟩ := initFr_some hfr
    obtain ⟨s1, s2⟩ := endR_safe hs
    refine .inl ⟨callFunc_enter hg hb hname, ?_⟩
    have hal : args.size = f.params.length := by have := hargs.1; simp at this; omega
    have he : ER (nmOf ng fn f) ι [] fr { tmps := args ++ Array.replicate (fn.ntmps - args.size) undef, defers := [] } := by
      refine ⟨rfl, fun i v t h => by simp at h, fun p v hp => ?_, hglob, by simp [nmOf]; omega⟩
      rcases h2 p v hp with ⟨j, e1, e2⟩ | h3
      · have hj : j < f.params.length := (List.getElem?_eq_some_iff.1 e1).1
        have hpn : p.num = j := by
          have : (f.params.map P.num)[j]? = some p.num := by simp [e1]
          rw [hps] at this
          simpa [hj] using this.symm
        refine ⟨List.mem_append_left _ (List.mem_map_of_mem (List.mem_of_getElem? e1)), fun _ => ?_⟩
        rw [hpn]
        have hj2 : j < args.size := by omega
        have hget : (args ++ Array.replicate (fn.ntmps - args.size) undef).getD j undef = args[j] := by
          rw [Array.getD_eq_getD_getElem?, Array.getElem?_append_left hj2]; simp [hj2]
        show VR ι v ((args ++ Array.replicate (fn.ntmps - args.size) undef).getD j undef)
        rw [hget]
        exact hargs.2 j v _ e2 (by simp [hj2])
      · rw [emptyT_get _ _ hsk] at h3; cases h3
    have hcode := code_ok (loops := loops) hchk hD (n := nmOf ng fn f) hcf rfl c f.body ι fr h _ w hbody he hr s1
    refine calls_of_wp hg hb (wp_mono hcode ?_)
    rintro ex a' w' ⟨re, fr', h', ι', hl, rfl, her, hst, hdef⟩
    obtain ⟨hre, s3⟩ := s2 re fr' h' hl
    obtain ⟨v, v', r1, r2, r3⟩ := ret_ok (fn := fn) hty her rfl hst.rel hres s3
    have hp : bodyPost Pg fn (fun | .returned v, w' => Post ι h w (endR f.res (exec cf loops f.body fr h)) v w' | _, _ => False) .normal a' w' :=
      ⟨hdef, v', r1, v, h', ι', endR_leaf hl hre r2, r3, hst⟩
    rcases hre with rfl | rfl
    · exact hp
    · exact hp

/-! ### the machine -/
/-- what checks a function that is not of the program's text -/
def ExtOK (Pg : Program) (e : Ext) (g : Nat) : Prop := ∀ (vs : List V) (h : H), (extR h e vs).safe → ∀ (ι : Io) (w : World) (args : Array Value), Rel ι h w → VRs ι vs args.toList → FnOK Pg g args w (Post ι h w (extR h e vs))
theorem call_ok {Pg : Program} {chk : Nm → Oper → C → Bool} {okD : Nm → List Nat → Array Oper → List It → Bool} {ty : Nat → Option TyInfo} {ng : Nat} {fns : T AF} {loops : Nat} (hchk : ChkOK Pg chk) (hD : DOK Pg okD) (hty : TyOk Pg ty)
    (hfns : ∀ (p : P) (f : AF), fns.get p = some f → (∃ fn, Pg.funcs[p.num]? = some fn ∧ okFn chk okD ty ng fn f = true) ∨ ∃ e, f.ext = some e ∧ ExtOK Pg e p.num) : ∀ d, CfOK Pg ng (call fns loops d) := by
  intro d
  induction d with
  | zero => intro f vs h hs; exact hs.elim
  | succ d ih =>
    intro f vs h hs ι w args hr hglob hargs
    have hs1 : (onSome (fns.get f) (fun fn => callF (call fns loops d) loops fn vs h)).safe := hs
    obtain ⟨af, haf, e⟩ := onSome_safe hs1
    have e2 : call fns loops (d + 1) f vs h = callF (call fns loops d) loops af vs h := e
    rw [e2] at hs ⊢
    rcases hfns f af haf with ⟨fn, hfn, hk⟩ | ⟨x, hx, hok⟩
    · exact fn_ok hchk hD hty ih hk hfn hs hr hglob hargs
    · have e3 : callF (call fns loops d) loops af vs h = extR h x vs := by unfold callF; rw [hx]
      rw [e3] at hs ⊢
      exact hok vs h hs ι w args hr hargs
end Go.Am
