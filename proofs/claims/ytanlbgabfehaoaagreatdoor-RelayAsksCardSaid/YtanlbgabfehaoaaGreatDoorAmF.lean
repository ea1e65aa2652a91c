/- Arguments; rules for runs with open inputs. -/
import Derived.Test.YtanlbgabfehaoaaGreatDoorAmE
namespace Go.Am
open Go.ChangeShapes Go.WideShapes Go.ChangeAt Go.RowKit

theorem mapM_some {β γ : Type} {f : β → Option γ} : ∀ (l : List β) (ys : List γ), l.mapM f = some ys → ys.length = l.length ∧ ∀ (i : Nat) a, l[i]? = some a → ∃ y, ys[i]? = some y ∧ f a = some y
  | [], ys, h => by
    obtain rfl : [] = ys := by simpa using h
    exact ⟨rfl, fun i a h => by simp at h⟩
  | b :: l, ys, h => by
    rw [List.mapM_cons] at h
    cases hf : f b with
    | none => rw [hf] at h; simp at h
    | some y =>
      rw [hf] at h
      simp only [Option.bind_eq_bind, Option.bind_some] at h
      cases hl : l.mapM f with
      | none => rw [hl] at h; simp at h
      | some zs =>
        rw [hl] at h
        obtain rfl : y :: zs = ys := by simpa using h
        obtain ⟨h1, h2⟩ := mapM_some l zs hl
        refine ⟨by simp [h1], fun i a ha => ?_⟩
        cases i with
        | zero =>
          obtain rfl : b = a := by simpa using ha
          exact ⟨y, by simp, hf⟩
        | succ i =>
          obtain ⟨z, h3, h4⟩ := h2 i a (by simpa using ha)
          exact ⟨z, by simpa using h3, h4⟩
theorem mapM_range {γ : Type} {f : Nat → Option γ} {n : Nat} {ys : List γ} (h : (List.range n).mapM f = some ys) : ys.length = n ∧ ∀ i, i < n → ∃ y, ys[i]? = some y ∧ f i = some y := by
  obtain ⟨h1, h2⟩ := mapM_some _ _ h
  refine ⟨by simpa using h1, fun i hi => h2 i i (by simp [hi])⟩
theorem slice_get {γ : Type} {l : List γ} {o n : Nat} {ys : List γ} (h : (List.range n).mapM (fun j => l[o + j]?) = some ys) (hn : 0 < n) : ys = (l.drop o).take n ∧ o + n ≤ l.length := by
  obtain ⟨h1, h2⟩ := mapM_range h
  have hle : o + n ≤ l.length := by
    obtain ⟨y, _, hy⟩ := h2 (n - 1) (by omega)
    have := (List.getElem?_eq_some_iff.1 hy).1
    omega
  refine ⟨List.ext_getElem? fun i => ?_, hle⟩
  rw [List.getElem?_take]
  split
  · rename_i hi
    obtain ⟨y, e1, e2⟩ := h2 i hi
    rw [List.getElem?_drop, e1, ← e2]
  · rename_i hi
    rw [List.getElem?_eq_none (by omega)]

/-- integers of these kinds -/
def Ints (sh : List IntKind) (vs : List Value) : Prop := vs.length = sh.length ∧ ∀ (i : Nat) k v, sh[i]? = some k → vs[i]? = some v → ∃ n, v = .int k n ∧ (Lit.int k n).wf = true
theorem Ints.append {a b : List IntKind} {vs us : List Value} (h : Ints a vs) (g : Ints b us) : Ints (a ++ b) (vs ++ us) := by
  refine ⟨by simp [h.1, g.1], fun i k v h1 h2 => ?_⟩
  by_cases hi : i < a.length
  · rw [List.getElem?_append_left hi] at h1
    rw [List.getElem?_append_left (by rw [h.1]; exact hi)] at h2
    exact h.2 i k v h1 h2
  · rw [List.getElem?_append_right (by omega)] at h1
    rw [List.getElem?_append_right (by rw [h.1]; omega), h.1] at h2
    exact g.2 _ k v h1 h2
theorem Ints.nil : Ints [] [] := ⟨rfl, fun i k v h => by simp at h⟩

def shFs (sub : TypeId → Option (List IntKind)) (cells : TypeId → Nat) : List Field → Nat → Option (List IntKind)
  | [], _ => some []
  | f :: fs, off => match sub f.type with
    | some s => if f.offset = off ∧ cells f.type = s.length then (shFs sub cells fs (off + s.length)).map (s ++ ·) else none
    | none => none
def repS (s : List IntKind) : Nat → List IntKind
  | 0 => []
  | n + 1 => s ++ repS s n
theorem repS_length (s : List IntKind) : ∀ n, (repS s n).length = n * s.length
  | 0 => by simp [repS]
  | n + 1 => by rw [repS, List.length_append, repS_length s n, Nat.add_mul]; omega
def shapeOf (P : Program) : Nat → TypeId → Option (List IntKind)
  | 0, _ => none
  | d + 1, t => match P.underlying t with
    | some (.int k) => some [k]
    | some (.struct fs) => shFs (shapeOf P d) P.cellsOf fs.toList 0
    | some (.array n e) => match shapeOf P d e with
      | some s => if P.cellsOf e = s.length then some (repS s n) else none
      | none => none
    | _ => none

section
variable {α : Type} {enc : TypeId × Value → α} {P : Program} {w : World} {base : Nat} {sp : Nat → Bool} {held : Bool}
theorem shape_ok : ∀ (d : Nat) (t : TypeId) (sh : List IntKind), shapeOf P d t = some sh → P.cellsOf t = sh.length → ∀ (fuel : Nat) (cs : List Value) y, DataW.trod enc P w base sp held fuel t cs = some y → Ints sh cs := by
  intro d
  induction d with
  | zero => intro t sh h; cases h
  | succ d ih =>
    intro t sh h hc fuel cs y hy
    cases fuel with
    | zero => cases hy
    | succ fuel =>
    unfold shapeOf at h
    unfold DataW.trod at hy
    split at h
    · rename_i k hu
      obtain rfl := Option.some.inj h
      rw [hu] at hy
      rcases cs with _ | ⟨v, _ | ⟨v2, cs⟩⟩
      · cases hy
      · cases v <;> try (cases hy; done)
        rename_i k' n
        dsimp only at hy
        split at hy
        · rename_i hk
          obtain ⟨rfl, hw⟩ := hk
          refine ⟨rfl, fun i k v h1 h2 => ?_⟩
          cases i with
          | zero =>
            simp at h1 h2
            subst h1 h2
            exact ⟨n, rfl, hw⟩
          | succ i => simp at h1
        · cases hy
      · cases v <;> cases hy
    · rename_i fs hu
      rw [hu] at hy
      dsimp only at hy
      split at hy
      · rename_i hl
        obtain ⟨ys, h1, _⟩ := Option.map_eq_some_iff.1 hy
        obtain ⟨h2, h3⟩ := mapM_some _ _ h1
        have key : ∀ (fl : List Field) (off : Nat) (s : List IntKind), shFs (shapeOf P d) P.cellsOf fl off = some s → (∀ f ∈ fl, ∃ y, DataW.trod enc P w base sp held fuel f.type ((cs.drop f.offset).take (P.cellsOf f.type)) = some y) → off + s.length = cs.length → Ints s (cs.drop off) := by
          intro fl
          induction fl with
          | nil =>
            intro off s hs _ hlen
            obtain rfl := Option.some.inj (show some [] = some s from hs)
            rw [List.drop_of_length_le (by simp at hlen; omega)]
            exact Ints.nil
          | cons f fl ihf =>
            intro off s hs hall hlen
            unfold shFs at hs
            split at hs
            · rename_i s1 hs1
              split at hs
              · rename_i hk
                obtain ⟨ho, hcf⟩ := hk
                obtain ⟨s2, e1, e2⟩ := Option.map_eq_some_iff.1 hs
                have e2 : s1 ++ s2 = s := e2
                subst e2
                obtain ⟨y1, hy1⟩ := hall f List.mem_cons_self
                have i1 := ih f.type s1 hs1 hcf fuel _ y1 hy1
                rw [List.length_append] at hlen
                have i2 := ihf (off + s1.length) s2 e1 (fun g hg => hall g (List.mem_cons_of_mem _ hg)) (by omega)
                rw [ho, hcf] at i1
                have := i1.append i2
                rw [← List.drop_drop, List.take_append_drop] at this
                exact this
              · cases hs
            · cases hs
        have := key fs.toList 0 sh h (fun f hf => by
          obtain ⟨i, hi⟩ := List.getElem?_of_mem hf
          obtain ⟨y, _, e⟩ := h3 i f hi
          exact ⟨y, e⟩) (by rw [Nat.zero_add, ← hc, hl])
        simpa using this
      · cases hy
    · rename_i n e hu
      rw [hu] at hy
      dsimp only at hy
      split at h
      · rename_i s1 hs1
        split at h
        · rename_i hce
          obtain rfl := Option.some.inj h
          split at hy
          · rename_i hl
            obtain ⟨ys, h1, _⟩ := Option.map_eq_some_iff.1 hy
            obtain ⟨h2, h3⟩ := mapM_range h1
            have key : ∀ (m : Nat) (i : Nat), i + m = n → Ints (repS s1 m) (cs.drop (i * s1.length)) := by
              intro m
              induction m with
              | zero =>
                intro i hi
                have hlen : (repS s1 n).length = n * s1.length := repS_length s1 n
                rw [List.drop_of_length_le (by rw [hl, hc, hlen, show i = n by omega]; exact Nat.le_refl _)]
                exact Ints.nil
              | succ m ihm =>
                intro i hi
                obtain ⟨y1, _, hy1⟩ := h3 i (by omega)
                have i1 := ih e s1 hs1 hce fuel _ y1 hy1
                have i2 := ihm (i + 1) (by omega)
                rw [hce] at i1
                have := i1.append i2
                rw [Nat.add_mul, Nat.one_mul, ← List.drop_drop, List.take_append_drop] at this
                exact this
            have := key n 0 (by omega)
            simpa using this
          · cases hy
        · cases h
      · cases h
    · cases h

/-- a slice of such elements, as it lies -/
structure SlIs (sh : List IntKind) (w : World) (a : Addr) (len cap : Nat) (cur : Array Value) (e : TypeId) (fz : Nat × Nat) : Prop where
  spot : a.spot = none
  obj : w.heap[a.block]? = some (.cells cur e fz)
  fits : a.off + len * sh.length ≤ cur.size
  ints : ∀ i, i < len → Ints sh ((cur.toList.drop (a.off + i * sh.length)).take sh.length)
theorem open_sl {t e : TypeId} {sh : List IntKind} {d : Nat} {v : Value} {x : DataW α} {ps : List MemPlace} {r : Reach} {b0 : Nat} (ht : P.underlying t = some (.slice e)) (hs : shapeOf P d e = some sh) (hc : P.cellsOf e = sh.length) (hpos : 0 < sh.length)
    (hval : Value.okWide P w r b0 t v) (hd : DataW.Trod enc P w 0 (fun _ => true) held t v x ps) :
    v = .slice none 0 0 ∨ ∃ a len cap, v = .slice (some a) len cap ∧ len ≤ cap ∧ cap ≤ maxLen ∧ (cap = 0 ∨ ∃ cur e' fz, SlIs sh w a len cap cur e' fz) := by
  obtain ⟨a, len, cap, rfl⟩ := okWide_slice ht hval
  obtain ⟨fuel, hd⟩ := hd
  cases fuel with
  | zero => cases hd
  | succ fuel =>
  unfold DataW.trod at hd
  rw [ht] at hd
  have hcs : (Value.slice a len cap).cells.toList = [.slice a len cap] := rfl
  rw [hcs] at hd
  cases a with
  | none =>
    cases len with
    | zero => cases cap with
      | zero => exact .inl rfl
      | succ => cases hd
    | succ => cases hd
  | some a =>
    dsimp only at hd
    split at hd
    · rename_i hk
      refine .inr ⟨a, len, cap, rfl, hk.2.1, hk.2.2, ?_⟩
      cases cap with
      | zero => exact .inl rfl
      | succ c =>
        right
        obtain ⟨ys, h1, h2⟩ := Option.bind_eq_some_iff.1 hd
        rw [if_pos rfl] at h2
        obtain ⟨zs, h3, _⟩ := Option.map_eq_some_iff.1 h2
        obtain ⟨_, m1⟩ := mapM_range h1
        obtain ⟨_, m2⟩ := mapM_range h3
        -- one element that is read
        have one : ∀ i, i ≤ c → ∃ y, (w.cells? 0 (a.add (i * P.cellsOf e)) (P.cellsOf e)).bind (DataW.trod enc P w 0 (fun _ => true) held fuel e) = some y := by
          intro i hi
          by_cases hl : i < len
          · obtain ⟨y, _, hy⟩ := m1 i hl; exact ⟨y, hy⟩
          · obtain ⟨y, _, hy⟩ := m2 (i - len) (by omega)
            rw [show len + (i - len) = i by omega] at hy
            exact ⟨y, hy⟩
        have cell : ∀ (i j : Nat) (v : Value), w.cell? ((a.add i).add j) = some v → (i + j = 0 → a.spot = none) ∧ ∃ cur e' fz, w.heap[a.block]? = some (.cells cur e' fz) ∧ cur.toList[a.off + i + j]? = some v := by
          intro i j v hv
          have hb : ((a.add i).add j).block = a.block ∧ ((a.add i).add j).off = a.off + i + j ∧ (i + j = 0 → (a.add i).add j = a) := by
            unfold Addr.add
            by_cases h1 : i = 0 <;> by_cases h2 : j = 0 <;> simp [h1, h2]
          unfold World.cell? at hv
          rw [hb.1, hb.2.1] at hv
          split at hv
          · rename_i cur e' fz hobj
            split at hv
            · cases hv
            · rename_i hsp
              refine ⟨fun h0 => ?_, cur, e', fz, hobj, by simpa using hv⟩
              rw [hb.2.2 h0] at hsp
              simpa using hsp
          · cases hv
        obtain ⟨y0, hy0⟩ := one 0 (Nat.zero_le _)
        obtain ⟨vs0, hv0, _⟩ := Option.bind_eq_some_iff.1 hy0
        have cellsEq : ∀ (i : Nat) (vs : List Value), w.cells? 0 (a.add i) (P.cellsOf e) = some vs → (List.range (P.cellsOf e)).mapM (fun j => w.cell? ((a.add i).add j)) = some vs := by
          intro i vs h
          unfold World.cells? at h
          rw [if_pos (Nat.zero_le _)] at h
          exact h
        obtain ⟨u0, _, hu0⟩ := (mapM_range (cellsEq _ _ hv0)).2 0 (by omega)
        rw [Nat.zero_mul] at hu0
        obtain ⟨hsp, cur, e', fz, hobj, _⟩ := cell 0 0 u0 hu0
        have get : ∀ i, i ≤ c → ∃ vs y, vs = (cur.toList.drop (a.off + i * sh.length)).take sh.length ∧ a.off + i * sh.length + sh.length ≤ cur.size ∧ DataW.trod enc P w 0 (fun _ => true) held fuel e vs = some y := by
          intro i hi
          obtain ⟨y, hy⟩ := one i hi
          obtain ⟨vs, hv, hy⟩ := Option.bind_eq_some_iff.1 hy
          have hm := cellsEq _ _ hv
          rw [hc] at hm
          have hm2 : (List.range sh.length).mapM (fun j => cur.toList[a.off + i * sh.length + j]?) = some vs := by
            refine mapM_old _ _ (fun j _ v hjv => ?_) hm
            obtain ⟨_, cur2, e2, fz2, ho2, hc2⟩ := cell _ _ v hjv
            rw [hobj] at ho2
            obtain ⟨rfl, _⟩ := Obj.cells.inj (Option.some.inj ho2)
            exact hc2
          obtain ⟨e1, e2⟩ := slice_get hm2 hpos
          exact ⟨vs, y, e1, by simpa using e2, hy⟩
        refine ⟨cur, e', fz, hsp rfl, hobj, ?_, fun i hi => ?_⟩
        · cases len with
          | zero =>
            obtain ⟨_, _, _, h5, _⟩ := get 0 (Nat.zero_le _)
            omega
          | succ n =>
            obtain ⟨_, _, _, h5, _⟩ := get n (by omega)
            rw [Nat.add_mul, Nat.one_mul]
            omega
        · obtain ⟨vs, y, e1, _, hy⟩ := get i (by omega)
          rw [← e1]
          exact shape_ok d e sh hs hc fuel vs y hy
    · cases hd
end
end Go.Am
namespace Go.Am

structure Ens (r : R) (Q : V → H → Prop) : Prop where
  safe : r.safe
  all : ∀ v h, r.Leaf v h → Q v h
structure EnsO (r : RO) (Q : RE → Fr → H → Prop) : Prop where
  safe : r.safe
  all : ∀ e fr h, r.Leaf e fr h → Q e fr h
theorem Ens.mono {r : R} {Q Q' : V → H → Prop} (e : Ens r Q) (k : ∀ v h, Q v h → Q' v h) : Ens r Q' := ⟨e.safe, fun v h l => k v h (e.all v h l)⟩
theorem EnsO.mono {r : RO} {Q Q' : RE → Fr → H → Prop} (e : EnsO r Q) (k : ∀ x fr h, Q x fr h → Q' x fr h) : EnsO r Q' := ⟨e.safe, fun x fr h l => k x fr h (e.all x fr h l)⟩
theorem ens_ok {v : V} {h : H} {Q : V → H → Prop} (q : Q v h) : Ens (.ok v h) Q := ⟨trivial, fun _ _ l => by cases l; exact q⟩
theorem ens_eq {r : R} {v : V} {h : H} {Q : V → H → Prop} (e : r = .ok v h) (q : Q v h) : Ens r Q := by rw [e]; exact ens_ok q
theorem AllTrue.of_ens {r : R} (e : Ens r fun v _ => v = .bool true) : AllTrue r := ⟨e.safe, e.all⟩

section
variable {cf : CallF} {L : Nat} {Q : RE → Fr → H → Prop} {st : St} {fr : Fr} {h : H} {l : List It}

theorem push_leaf_inv {k : KK} : ∀ {r : R} {e : RE} {fr' : Fr} {h' : H}, (push k st fr r).Leaf e fr' h' → ∃ v h1, r.Leaf v h1 ∧ (k (v :: st) fr h1).Leaf e fr' h'
  | .no, _, _, _, l => by cases l
  | .ok v h1, _, _, _, l => ⟨v, h1, .ok _ _, l⟩
  | .ask n f, _, _, _, l => by
    have l : (RO.ask n fun i => push k st fr (f i)).Leaf _ _ _ := l
    cases l with
    | ask i hi l =>
      obtain ⟨v, h1, l1, l2⟩ := push_leaf_inv l
      exact ⟨v, h1, .ask i hi l1, l2⟩
theorem push_safe_mk {k : KK} : ∀ {r : R}, r.safe → (∀ v h1, r.Leaf v h1 → (k (v :: st) fr h1).safe) → (push k st fr r).safe
  | .no, s, _ => s.elim
  | .ok v h1, _, g => g v h1 (.ok _ _)
  | .ask n f, s, g => ⟨s.1, fun i hi => push_safe_mk (s.2 i hi) fun v h1 l => g v h1 (.ask i hi l)⟩
theorem w_push {k : KK} {r : R} (e : Ens r fun v h' => EnsO (k (v :: st) fr h') Q) : EnsO (push k st fr r) Q :=
  ⟨push_safe_mk e.safe fun v h1 l => (e.all v h1 l).safe, fun x fr' h' l => let ⟨v, h1, l1, l2⟩ := push_leaf_inv l; (e.all v h1 l1).all _ _ _ l2⟩

/-! items -/
theorem w_nil (q : Q .norm fr h) : EnsO (runIts cf [] st fr h) Q := ⟨trivial, fun _ _ _ l => by cases l; exact q⟩
theorem w_op {c : C} (e : Ens (c.sem st fr h) fun v h' => EnsO (runIts cf l (v :: st) fr h') Q) : EnsO (runIts cf (.op c :: l) st fr h) Q := w_push (k := runIts cf l) e
theorem w_eq {c : C} {v : V} {h' : H} (e : c.sem st fr h = .ok v h') (k : EnsO (runIts cf l (v :: st) fr h') Q) : EnsO (runIts cf (.op c :: l) st fr h) Q := w_op (ens_eq e k)
theorem w_keep {p : P} (k : EnsO (runIts cf l st (fr.set p (nthI .junk .z st)) h) Q) : EnsO (runIts cf (.keep p :: l) st fr h) Q := k
theorem w_call {f : P} {xs : List X} (e : Ens (cf f (evs xs st fr) h) fun v h' => EnsO (runIts cf l (v :: st) fr h') Q) : EnsO (runIts cf (.call f xs :: l) st fr h) Q := w_push (k := runIts cf l) e
theorem w_gop {i : I} {b w : Bool} {c : C} (hb : nthI .junk i st = .bool b) (k1 : b = w → EnsO (runIts cf (.op c :: l) st fr h) Q) (k2 : b = (!w) → EnsO (runIts cf l (.tup [] :: st) fr h) Q) : EnsO (runIts cf (.gop i w c :: l) st fr h) Q := by
  show EnsO (push (runIts cf l) st fr (onGuard (nthI .junk i st) w (c.sem st fr h) (.ok (.tup []) h))) Q
  rw [hb]
  cases b <;> cases w
  · exact k1 rfl
  · exact k2 rfl
  · exact k2 rfl
  · exact k1 rfl
theorem w_gop0 {i : I} {w : Bool} {c : C} (hb : nthI .junk i st = .tup []) (k2 : EnsO (runIts cf l (.tup [] :: st) fr h) Q) : EnsO (runIts cf (.gop i w c :: l) st fr h) Q := by
  show EnsO (push (runIts cf l) st fr (onGuard (nthI .junk i st) w (c.sem st fr h) (.ok (.tup []) h))) Q
  rw [hb]
  exact k2
theorem w_gcall {i : I} {b w : Bool} {f : P} {xs : List X} (hb : nthI .junk i st = .bool b) (k1 : b = w → EnsO (runIts cf (.call f xs :: l) st fr h) Q) (k2 : b = (!w) → EnsO (runIts cf l (.tup [] :: st) fr h) Q) : EnsO (runIts cf (.gcall i w f xs :: l) st fr h) Q := by
  show EnsO (push (runIts cf l) st fr (onGuard (nthI .junk i st) w (cf f (evs xs st fr) h) (.ok (.tup []) h))) Q
  rw [hb]
  cases b <;> cases w
  · exact k1 rfl
  · exact k2 rfl
  · exact k2 rfl
  · exact k1 rfl
theorem w_gcall0 {i : I} {w : Bool} {f : P} {xs : List X} (hb : nthI .junk i st = .tup []) (k2 : EnsO (runIts cf l (.tup [] :: st) fr h) Q) : EnsO (runIts cf (.gcall i w f xs :: l) st fr h) Q := by
  show EnsO (push (runIts cf l) st fr (onGuard (nthI .junk i st) w (cf f (evs xs st fr) h) (.ok (.tup []) h))) Q
  rw [hb]
  exact k2

/-! code -/
def thenQ (f : Fr → H → RO) (Q : RE → Fr → H → Prop) : RE → Fr → H → Prop
  | .norm, fr, h => EnsO (f fr h) Q
  | .exit id, fr, h => Q (.exit id) fr h
  | .ret, fr, h => Q .ret fr h
theorem after_leaf_inv {f : Fr → H → RO} : ∀ {r : RO} {e : RE} {fr' : Fr} {h' : H}, (after r f).Leaf e fr' h' → (∃ fr1 h1, r.Leaf .norm fr1 h1 ∧ (f fr1 h1).Leaf e fr' h') ∨ (e ≠ .norm ∧ r.Leaf e fr' h')
  | .no, _, _, _, l => by cases l
  | .norm fr1 h1, _, _, _, l => .inl ⟨fr1, h1, .norm _ _, l⟩
  | .exit id fr1 h1, _, _, _, l => by cases l; exact .inr ⟨by simp, .exit _ _ _⟩
  | .ret fr1 h1, _, _, _, l => by cases l; exact .inr ⟨by simp, .ret _ _⟩
  | .ask n g, _, _, _, l => by
    have l : (RO.ask n fun i => after (g i) f).Leaf _ _ _ := l
    cases l with
    | ask i hi l =>
      rcases after_leaf_inv l with ⟨fr1, h1, l1, l2⟩ | ⟨hn, l1⟩
      · exact .inl ⟨fr1, h1, .ask i hi l1, l2⟩
      · exact .inr ⟨hn, .ask i hi l1⟩
theorem after_safe_mk {f : Fr → H → RO} : ∀ {r : RO}, r.safe → (∀ fr1 h1, r.Leaf .norm fr1 h1 → (f fr1 h1).safe) → (after r f).safe
  | .no, s, _ => s.elim
  | .norm fr1 h1, _, g => g fr1 h1 (.norm _ _)
  | .exit .., _, _ => trivial
  | .ret .., _, _ => trivial
  | .ask n k, s, g => ⟨s.1, fun i hi => after_safe_mk (s.2 i hi) fun fr1 h1 l => g fr1 h1 (.ask i hi l)⟩
theorem w_after {f : Fr → H → RO} {r : RO} (e : EnsO r (thenQ f Q)) : EnsO (after r f) Q := by
  refine ⟨after_safe_mk e.safe fun fr1 h1 l => ?_, fun x fr' h' l => ?_⟩
  · exact (show EnsO (f fr1 h1) Q from e.all _ _ _ l).safe
  · rcases after_leaf_inv l with ⟨fr1, h1, l1, l2⟩ | ⟨hn, l1⟩
    · exact (show EnsO (f fr1 h1) Q from e.all _ _ _ l1).all _ _ _ l2
    · have := e.all _ _ _ l1
      cases x with
      | norm => exact absurd rfl hn
      | exit id => exact this
      | ret => exact this
theorem w_reg {o : List Nat} (e : EnsO (runIts cf l [] fr h) Q) : EnsO (exec cf L (.reg o l) fr h) Q := e
theorem w_seq {a b : K} (e : EnsO (exec cf L a fr h) (thenQ (exec cf L b) Q)) : EnsO (exec cf L (.seq a b) fr h) Q := w_after (f := exec cf L b) e
theorem w_cond {x : X} {t : Bool} {a b : K} (hx : x.ev [] fr = .bool t) (k1 : t = true → EnsO (exec cf L a fr h) Q) (k2 : t = false → EnsO (exec cf L b fr h) Q) : EnsO (exec cf L (.cond x a b) fr h) Q := by
  show EnsO (kCond (x.ev [] fr) (exec cf L a fr h) (exec cf L b fr h)) Q
  rw [hx]
  cases t
  · exact k2 rfl
  · exact k1 rfl
theorem w_skip (q : Q .norm fr h) : EnsO (exec cf L .skip fr h) Q := ⟨trivial, fun _ _ _ l => by cases l; exact q⟩
theorem w_exit {id : Nat} (q : Q (.exit id) fr h) : EnsO (exec cf L (.exit id) fr h) Q := ⟨trivial, fun _ _ _ l => by cases l; exact q⟩
theorem w_ret (q : Q .ret fr h) : EnsO (exec cf L .ret fr h) Q := ⟨trivial, fun _ _ _ l => by cases l; exact q⟩
def blockQ (id : Nat) (Q : RE → Fr → H → Prop) : RE → Fr → H → Prop
  | .norm, fr, h => Q .norm fr h
  | .exit i, fr, h => Q (cond (Nat.beq i id) .norm (.exit i)) fr h
  | .ret, fr, h => Q .ret fr h
theorem kBlock_leaf_inv {id : Nat} : ∀ {r : RO} {e : RE} {fr' : Fr} {h' : H}, (kBlock id r).Leaf e fr' h' → ∃ e0, r.Leaf e0 fr' h' ∧ e = (match e0 with | .exit i => cond (Nat.beq i id) .norm (.exit i) | e => e)
  | .no, _, _, _, l => by cases l
  | .norm fr1 h1, _, _, _, l => by cases l; exact ⟨.norm, .norm _ _, rfl⟩
  | .ret fr1 h1, _, _, _, l => by cases l; exact ⟨.ret, .ret _ _, rfl⟩
  | .exit i fr1 h1, e, _, _, l => by
    have l : (cond (Nat.beq i id) (RO.norm fr1 h1) (.exit i fr1 h1)).Leaf _ _ _ := l
    cases hb : Nat.beq i id <;> rw [hb] at l <;> cases l
    · exact ⟨.exit i, .exit _ _ _, by simp [hb]⟩
    · exact ⟨.exit i, .exit _ _ _, by simp [hb]⟩
  | .ask n k, _, _, _, l => by
    have l : (RO.ask n fun i => kBlock id (k i)).Leaf _ _ _ := l
    cases l with
    | ask i hi l =>
      obtain ⟨e0, l1, l2⟩ := kBlock_leaf_inv l
      exact ⟨e0, .ask i hi l1, l2⟩
theorem kBlock_safe_mk {id : Nat} : ∀ {r : RO}, r.safe → (kBlock id r).safe
  | .no, s => s.elim
  | .norm .., _ => trivial
  | .ret .., _ => trivial
  | .exit i fr1 h1, _ => by
    show (cond (Nat.beq i id) (RO.norm fr1 h1) (.exit i fr1 h1)).safe
    cases Nat.beq i id <;> trivial
  | .ask n k, s => ⟨s.1, fun i hi => kBlock_safe_mk (s.2 i hi)⟩
theorem w_block {id : Nat} {a : K} (e : EnsO (exec cf L a fr h) (blockQ id Q)) : EnsO (exec cf L (.block id a) fr h) Q := by
  show EnsO (kBlock id (exec cf L a fr h)) Q
  refine ⟨kBlock_safe_mk e.safe, fun x fr' h' l => ?_⟩
  obtain ⟨e0, l1, rfl⟩ := kBlock_leaf_inv l
  have := e.all _ _ _ l1
  cases e0 <;> exact this
def loopQ (I : Nat → Fr → H → Prop) (k : Nat) (Q : RE → Fr → H → Prop) : RE → Fr → H → Prop
  | .norm, fr, h => ∃ k', k = k' + 1 ∧ I k' fr h
  | .exit id, fr, h => Q (.exit id) fr h
  | .ret, fr, h => Q .ret fr h
/-- a loop: the invariant at 'at most so many rounds' -/
theorem w_loop {a : K} (I : Nat → Fr → H → Prop) {k : Nat} (hk : k < L) (h0 : I k fr h) (hs : ∀ k fr h, I k fr h → EnsO (exec cf L a fr h) (loopQ I k Q)) : EnsO (exec cf L (.loop a) fr h) Q := by
  have key : ∀ (m k : Nat) (fr : Fr) (h : H), k < m → I k fr h → EnsO (iter (exec cf L a) m fr h) Q := by
    intro m
    induction m with
    | zero => intro k fr h hk _; omega
    | succ m ih =>
      intro k fr h hk hI
      have e := hs k fr h hI
      refine w_after (f := iter (exec cf L a) m) (e.mono fun x fr' h' q => ?_)
      cases x with
      | norm =>
        obtain ⟨k', rfl, hI'⟩ := q
        exact ih k' fr' h' (by omega) hI'
      | exit id => exact q
      | ret => exact q
  exact key L k fr h hk h0

/-! calls -/
def endQ (res : List RV) (Q : V → H → Prop) : RE → Fr → H → Prop
  | .norm, fr, h => Ens (retR fr h res) Q
  | .exit _, _, _ => False
  | .ret, fr, h => Ens (retR fr h res) Q
theorem w_end {res : List RV} {Q : V → H → Prop} : ∀ {r : RO}, EnsO r (endQ res Q) → Ens (endR res r) Q
  | .no, e => e.safe.elim
  | .norm fr h, e => e.all _ _ _ (.norm fr h)
  | .ret fr h, e => e.all _ _ _ (.ret fr h)
  | .exit i fr h, e => (e.all _ _ _ (.exit i fr h)).elim
  | .ask n k, e => by
    have go : ∀ i, i < n → Ens (endR res (k i)) Q := fun i hi => w_end ⟨e.safe.2 i hi, fun x fr h l => e.all x fr h (.ask i hi l)⟩
    refine ⟨⟨e.safe.1, fun i hi => (go i hi).safe⟩, fun v h l => ?_⟩
    have l : (R.ask n fun i => endR res (k i)).Leaf v h := l
    cases l with
    | ask i hi l => exact (go i hi).all v h l
theorem w_fn {fns : T AF} {L d : Nat} {f : P} {af : AF} {vs : List V} {h : H} {fr : Fr} {Q : V → H → Prop} (hf : fns.get f = some af) (hx : af.ext = none) (hi : initFr af.params vs af.sk = some fr) (e : EnsO (exec (call fns L d) L af.body fr h) (endQ af.res Q)) : Ens (call fns L (d + 1) f vs h) Q := by
  have e1 : call fns L (d + 1) f vs h = endR af.res (exec (call fns L d) L af.body fr h) := by
    show onSome (fns.get f) (fun fn => callF (call fns L d) L fn vs h) = _
    rw [hf]
    show callF (call fns L d) L af vs h = _
    unfold callF
    rw [hx]
    show onSome (initFr af.params vs af.sk) _ = _
    rw [hi]
    rfl
  rw [e1]
  exact w_end e

/-! memory -/
theorem w_ld {x : X} {b : P} {o : Nat} {cs : List V} {ro : Bool} {v : V} (hx : x.ev st fr = .ptr b o) (hb : h.get b = some (.cells cs ro)) (hv : nth cs o = some v) (k : EnsO (runIts cf l (v :: st) fr h) Q) : EnsO (runIts cf (.op (.ld x) :: l) st fr h) Q := by
  refine w_eq ?_ k
  show cLd x st fr h = _
  unfold cLd H.cells
  rw [hx]
  show onSome (Option.casesOn (h.get b) none Blk.row) _ = _
  rw [hb]
  show onSome (nth cs o) _ = _
  rw [hv]
  rfl
theorem w_ldn {x : X} {n : Nat} {b : P} {o : Nat} {cs : List V} {ro : Bool} {vs : List V} (hx : x.ev st fr = .ptr b o) (hb : h.get b = some (.cells cs ro)) (hv : takeN n (dropN o cs) = some vs) (k : EnsO (runIts cf l (.agg vs :: st) fr h) Q) : EnsO (runIts cf (.op (.ldn n x) :: l) st fr h) Q := by
  refine w_eq ?_ k
  show cLdn n x st fr h = _
  unfold cLdn H.read H.cells
  rw [hx]
  show onSome (Option.casesOn (Option.casesOn (h.get b) none Blk.row) none _) _ = _
  rw [hb]
  show onSome (takeN n (dropN o cs)) _ = _
  rw [hv]
  rfl
theorem w_st {n : Nat} {a x : X} {b : P} {o : Nat} {cs cs' vs : List V} (ha : a.ev st fr = .ptr b o) (hx : (x.ev st fr).flat1 = some vs) (hn : Nat.beq (Am.len vs) n = true) (hb : h.get b = some (.cells cs false)) (hv : putAt o vs cs = some cs')
    (k : EnsO (runIts cf l (.tup [] :: st) fr (h.put b (.cells cs' false))) Q) : EnsO (runIts cf (.op (.st n a x) :: l) st fr h) Q := by
  refine w_eq ?_ k
  show cSt n a x st fr h = _
  unfold cSt H.write H.wcells
  rw [ha, hx]
  show cond (Nat.beq (Am.len vs) n) _ _ = _
  rw [hn, hb]
  show onSome (Option.casesOn (putAt o vs cs) none _) _ = _
  rw [hv]
  rfl
/-- an append that is not the first, where the slice goes to the end of its block: a new block -/
theorem w_grow {es bytes : Nat} {s x : X} {b b2 : P} {o o2 n m : Nat} {c2 : Cp} {cs cs2 new old : List V} {ro2 : Bool} (hs : s.ev st fr = .sl b o n (.fr es)) (hx : x.ev st fr = .sl b2 o2 m c2) (hb2 : h.get b2 = some (.cells cs2 ro2)) (hn : takeN (Nat.mul m es) (dropN o2 cs2) = some new)
    (hm : Nat.beq m 0 = false) (hb : h.get b = some (.cells cs false)) (hend : Nat.ble (Nat.add o (Nat.mul (Nat.add n m) es)) (Am.len cs) = false) (hsz : Nat.ble (Nat.mul (Nat.add n m) bytes) 140737488355328 = true) (ho : takeN (Nat.mul n es) (dropN o cs) = some old)
    (k : EnsO (runIts cf l (.sl h.next 0 (Nat.add n m) (.fr es) :: st) fr ((h.put b (.dead [])).alloc (.cells (app old new) false))) Q) : EnsO (runIts cf (.op (.appe es bytes s x) :: l) st fr h) Q := by
  refine w_eq ?_ k
  show cAppe es bytes s x st fr h = _
  unfold cAppe
  rw [hx, hs]
  show onSome (h.read b2 o2 (Nat.mul m es)) _ = _
  unfold H.read H.cells
  rw [hb2]
  show onSome (takeN (Nat.mul m es) (dropN o2 cs2)) _ = _
  rw [hn]
  show appTo es bytes m new b o n (.fr es) h = _
  unfold appTo
  rw [hm, hb]
  show cond (Nat.beq es es) (cond (Nat.ble (Nat.add o (Nat.mul (Nat.add n m) es)) (Am.len cs)) _ (cond false R.no (grow es bytes o n m cs new (h.put b (.dead []))))) _ = _
  rw [(natBeq_iff es es).2 rfl, hend]
  show grow es bytes o n m cs new (h.put b (.dead [])) = _
  unfold grow
  rw [hsz]
  show onSome (takeN (Nat.mul n es) (dropN o cs)) _ = _
  rw [ho]
  rfl
/-- the first append -/
theorem w_first {es bytes : Nat} {s x : X} {b2 : P} {o2 m : Nat} {c2 : Cp} {cs2 new : List V} {ro2 : Bool} (hs : s.ev st fr = .nilsl) (hx : x.ev st fr = .sl b2 o2 m c2) (hb2 : h.get b2 = some (.cells cs2 ro2)) (hn : takeN (Nat.mul m es) (dropN o2 cs2) = some new)
    (hm : Nat.beq m 0 = false) (hsz : Nat.ble (Nat.mul m bytes) 140737488355328 = true)
    (k : EnsO (runIts cf l (.sl h.next 0 m (.fr es) :: st) fr (h.alloc (.cells new false))) Q) : EnsO (runIts cf (.op (.appe es bytes s x) :: l) st fr h) Q := by
  refine w_eq ?_ k
  show cAppe es bytes s x st fr h = _
  unfold cAppe
  rw [hx, hs]
  show onSome (h.read b2 o2 (Nat.mul m es)) _ = _
  unfold H.read H.cells
  rw [hb2]
  show onSome (takeN (Nat.mul m es) (dropN o2 cs2)) _ = _
  rw [hn]
  show appNil es bytes m new h = _
  unfold appNil
  rw [hm, hsz]
  rfl
end
end Go.Am
namespace Go.Am

theorem wr64 {n : Int} (h1 : -9223372036854775808 ≤ n) (h2 : n < 9223372036854775808) : wrapQ .i64 n = n := by
  unfold wrapQ
  have : inKind .i64 n = true := by
    cases n with
    | ofNat m =>
      show Nat.blt m 9223372036854775808 = true
      rw [natBlt_iff]
      have : (Int.ofNat m : Int) = (m : Int) := rfl
      omega
    | negSucc m =>
      show Nat.blt m 9223372036854775808 = true
      rw [natBlt_iff]
      have : (Int.negSucc m : Int) = -(m : Int) - 1 := by omega
      omega
  rw [this]
  rfl
theorem wrU {k : IntKind} {p : Nat} {n : Int} (hk : ∀ m, inKind k (.ofNat m) = Nat.blt m p) (h1 : 0 ≤ n) (h2 : n < p) : wrapQ k n = n := by
  unfold wrapQ
  have : inKind k n = true := by
    cases n with
    | ofNat m =>
      rw [hk, natBlt_iff]
      have : (Int.ofNat m : Int) = (m : Int) := rfl
      omega
    | negSucc m => omega
  rw [this]
  rfl
theorem wrU8 {n : Int} (h1 : 0 ≤ n) (h2 : n < 256) : wrapQ .u8 n = n := wrU (fun _ => rfl) h1 h2
theorem wrU16 {n : Int} (h1 : 0 ≤ n) (h2 : n < 65536) : wrapQ .u16 n = n := wrU (fun _ => rfl) h1 h2
theorem wrU32 {n : Int} (h1 : 0 ≤ n) (h2 : n < 4294967296) : wrapQ .u32 n = n := wrU (fun _ => rfl) h1 h2

theorem kEq_refl (k : IntKind) : kEq k k = true := (kEq_iff k k).2 rfl

section
variable {cf : CallF} {L : Nat} {Q : RE → Fr → H → Prop} {st : St} {fr : Fr} {h : H} {l : List It}

theorem w_mv {x : X} {v : V} (hx : x.ev st fr = v) (k : EnsO (runIts cf l (v :: st) fr h) Q) : EnsO (runIts cf (.op (.mv x) :: l) st fr h) Q := by
  refine w_eq ?_ k
  show R.ok (x.ev st fr) h = _
  rw [hx]
theorem w_mv_int {x : X} {k0 : IntKind} {n : Int} (hx : x.ev st fr = .int k0 n) (k : EnsO (runIts cf l (.int k0 n :: st) fr h) Q) : EnsO (runIts cf (.op (.mv x) :: l) st fr h) Q := w_mv hx k
theorem w_mv_bool {x : X} {b : Bool} (hx : x.ev st fr = .bool b) (k : EnsO (runIts cf l (.bool b :: st) fr h) Q) : EnsO (runIts cf (.op (.mv x) :: l) st fr h) Q := w_mv hx k
theorem w_mv_ptr {x : X} {b : P} {o : Nat} (hx : x.ev st fr = .ptr b o) (k : EnsO (runIts cf l (.ptr b o :: st) fr h) Q) : EnsO (runIts cf (.op (.mv x) :: l) st fr h) Q := w_mv hx k
theorem w_mv_sl {x : X} {b : P} {o n : Nat} {c : Cp} (hx : x.ev st fr = .sl b o n c) (k : EnsO (runIts cf l (.sl b o n c :: st) fr h) Q) : EnsO (runIts cf (.op (.mv x) :: l) st fr h) Q := w_mv hx k
theorem w_mv_nilsl {x : X} (hx : x.ev st fr = .nilsl) (k : EnsO (runIts cf l (.nilsl :: st) fr h) Q) : EnsO (runIts cf (.op (.mv x) :: l) st fr h) Q := w_mv hx k
theorem w_mv_nil {x : X} (hx : x.ev st fr = .nil) (k : EnsO (runIts cf l (.nil :: st) fr h) Q) : EnsO (runIts cf (.op (.mv x) :: l) st fr h) Q := w_mv hx k
theorem w_mv_agg {x : X} {cs : List V} (hx : x.ev st fr = .agg cs) (k : EnsO (runIts cf l (.agg cs :: st) fr h) Q) : EnsO (runIts cf (.op (.mv x) :: l) st fr h) Q := w_mv hx k
theorem w_mv_str {x : X} {s : List Nat} (hx : x.ev st fr = .str s) (k : EnsO (runIts cf l (.str s :: st) fr h) Q) : EnsO (runIts cf (.op (.mv x) :: l) st fr h) Q := w_mv hx k
theorem w_mv_tup {x : X} {cs : List V} (hx : x.ev st fr = .tup cs) (k : EnsO (runIts cf l (.tup cs :: st) fr h) Q) : EnsO (runIts cf (.op (.mv x) :: l) st fr h) Q := w_mv hx k
theorem w_mv_nif {x : X} (hx : x.ev st fr = .niliface) (k : EnsO (runIts cf l (.niliface :: st) fr h) Q) : EnsO (runIts cf (.op (.mv x) :: l) st fr h) Q := w_mv hx k
theorem w_mv_if {x : X} {t : TypeId} {v : V} (hx : x.ev st fr = .iface t v) (k : EnsO (runIts cf l (.iface t v :: st) fr h) Q) : EnsO (runIts cf (.op (.mv x) :: l) st fr h) Q := w_mv hx k
theorem w_kp {p : P} {v : V} (k : EnsO (runIts cf l (v :: st) (fr.set p v) h) Q) : EnsO (runIts cf (.keep p :: l) (v :: st) fr h) Q := k
theorem w_not {x : X} {b : Bool} (hx : x.ev st fr = .bool b) (k : EnsO (runIts cf l (.bool (!b) :: st) fr h) Q) : EnsO (runIts cf (.op (.not x) :: l) st fr h) Q := by
  refine w_eq ?_ k
  show cNot x st fr h = _
  unfold cNot
  rw [hx]
  rfl
theorem w_pick {c a b : X} {t : Bool} (hc : c.ev st fr = .bool t) (k1 : t = true → EnsO (runIts cf (.op (.mv a) :: l) st fr h) Q) (k2 : t = false → EnsO (runIts cf (.op (.mv b) :: l) st fr h) Q) : EnsO (runIts cf (.op (.pick c a b) :: l) st fr h) Q := by
  have e : cPick c a b st fr h = .ok (cond t (a.ev st fr) (b.ev st fr)) h := by
    unfold cPick
    rw [hc]
    rfl
  cases t with
  | true => exact w_op (by show Ens (cPick c a b st fr h) _; rw [e]; exact (ens_ok (show EnsO (runIts cf l (a.ev st fr :: st) fr h) Q from k1 rfl)))
  | false => exact w_op (by show Ens (cPick c a b st fr h) _; rw [e]; exact (ens_ok (show EnsO (runIts cf l (b.ev st fr :: st) fr h) Q from k2 rfl)))

theorem w_cmp {op : COp} {x y : X} {k0 : IntKind} {a b : Int} {t : Bool} (hx : x.ev st fr = .int k0 a) (hy : y.ev st fr = .int k0 b) (ht : cmpI op a b = t) (k : EnsO (runIts cf l (.bool t :: st) fr h) Q) : EnsO (runIts cf (.op (.cmp op x y) :: l) st fr h) Q := by
  refine w_eq ?_ k
  show cCmp op x y st fr h = _
  unfold cCmp
  rw [hx, hy]
  show cond (kEq k0 k0) _ _ = _
  rw [kEq_refl, ht]
  rfl
theorem cmp_split {p : Prop} [Decidable p] {b : Bool} (hb : b = decide p) {C : Bool → Prop} (k1 : p → C true) (k2 : ¬ p → C false) : C b := by
  subst hb
  by_cases hp : p
  · simp only [hp, decide_true]; exact k1 hp
  · simp only [hp, decide_false]; exact k2 hp
theorem w_lt {x y : X} {k0 : IntKind} {a b : Int} (hx : x.ev st fr = .int k0 a) (hy : y.ev st fr = .int k0 b) (k1 : a < b → EnsO (runIts cf l (.bool true :: st) fr h) Q) (k2 : ¬ a < b → EnsO (runIts cf l (.bool false :: st) fr h) Q) : EnsO (runIts cf (.op (.cmp .lt x y) :: l) st fr h) Q :=
  w_cmp hx hy rfl (cmp_split (p := a < b) (b := cmpI .lt a b) (by show (!(intLe b a)) = _; rw [intLe_dec]; by_cases hp : b ≤ a <;> simp [hp] <;> omega) (C := fun t => EnsO (runIts cf l (.bool t :: st) fr h) Q) k1 k2)
theorem w_le {x y : X} {k0 : IntKind} {a b : Int} (hx : x.ev st fr = .int k0 a) (hy : y.ev st fr = .int k0 b) (k1 : a ≤ b → EnsO (runIts cf l (.bool true :: st) fr h) Q) (k2 : ¬ a ≤ b → EnsO (runIts cf l (.bool false :: st) fr h) Q) : EnsO (runIts cf (.op (.cmp .le x y) :: l) st fr h) Q :=
  w_cmp hx hy rfl (cmp_split (p := a ≤ b) (b := cmpI .le a b) (intLe_dec a b) (C := fun t => EnsO (runIts cf l (.bool t :: st) fr h) Q) k1 k2)
theorem w_gt {x y : X} {k0 : IntKind} {a b : Int} (hx : x.ev st fr = .int k0 a) (hy : y.ev st fr = .int k0 b) (k1 : b < a → EnsO (runIts cf l (.bool true :: st) fr h) Q) (k2 : ¬ b < a → EnsO (runIts cf l (.bool false :: st) fr h) Q) : EnsO (runIts cf (.op (.cmp .gt x y) :: l) st fr h) Q :=
  w_cmp hx hy rfl (cmp_split (p := b < a) (b := cmpI .gt a b) (by show (!(intLe a b)) = _; rw [intLe_dec]; by_cases hp : a ≤ b <;> simp [hp] <;> omega) (C := fun t => EnsO (runIts cf l (.bool t :: st) fr h) Q) k1 k2)
theorem w_ge {x y : X} {k0 : IntKind} {a b : Int} (hx : x.ev st fr = .int k0 a) (hy : y.ev st fr = .int k0 b) (k1 : b ≤ a → EnsO (runIts cf l (.bool true :: st) fr h) Q) (k2 : ¬ b ≤ a → EnsO (runIts cf l (.bool false :: st) fr h) Q) : EnsO (runIts cf (.op (.cmp .ge x y) :: l) st fr h) Q :=
  w_cmp hx hy rfl (cmp_split (p := b ≤ a) (b := cmpI .ge a b) (intLe_dec b a) (C := fun t => EnsO (runIts cf l (.bool t :: st) fr h) Q) k1 k2)
theorem w_ieq {x y : X} {k0 : IntKind} {a b : Int} (hx : x.ev st fr = .int k0 a) (hy : y.ev st fr = .int k0 b) (k1 : a = b → EnsO (runIts cf l (.bool true :: st) fr h) Q) (k2 : ¬ a = b → EnsO (runIts cf l (.bool false :: st) fr h) Q) : EnsO (runIts cf (.op (.cmp .eq x y) :: l) st fr h) Q :=
  w_cmp hx hy rfl (cmp_split (p := a = b) (b := cmpI .eq a b) (by show intEq a b = _; rw [intEq_dec]; by_cases hp : a = b <;> simp [hp]) (C := fun t => EnsO (runIts cf l (.bool t :: st) fr h) Q) k1 k2)
theorem w_ine {x y : X} {k0 : IntKind} {a b : Int} (hx : x.ev st fr = .int k0 a) (hy : y.ev st fr = .int k0 b) (k1 : ¬ a = b → EnsO (runIts cf l (.bool true :: st) fr h) Q) (k2 : a = b → EnsO (runIts cf l (.bool false :: st) fr h) Q) : EnsO (runIts cf (.op (.cmp .ne x y) :: l) st fr h) Q :=
  w_cmp hx hy rfl (cmp_split (p := ¬ a = b) (b := cmpI .ne a b) (by show (!(intEq a b)) = _; rw [intEq_dec]; by_cases hp : a = b <;> simp [hp]) (C := fun t => EnsO (runIts cf l (.bool t :: st) fr h) Q) k1 (fun hn => k2 (Decidable.not_not.1 hn)))

theorem w_ar {op : AOp} {k0 : IntKind} {x y : X} {a b : Int} {c : Int} (hx : x.ev st fr = .int k0 a) (hy : y.ev st fr = .int k0 b) (hc : arI op k0 a b h = .ok (.int k0 c) h) (k : EnsO (runIts cf l (.int k0 c :: st) fr h) Q) : EnsO (runIts cf (.op (.ar op k0 x y) :: l) st fr h) Q := by
  refine w_eq ?_ k
  show cAr op k0 x y st fr h = _
  unfold cAr
  rw [hx, hy]
  show cond (kEq k0 k0) (cond (kEq k0 k0) (arI op k0 a b h) .no) .no = _
  rw [kEq_refl, hc]
  rfl
theorem w_add {k0 : IntKind} {x y : X} {a b c : Int} (hx : x.ev st fr = .int k0 a) (hy : y.ev st fr = .int k0 b) (hc : wrapQ k0 (a + b) = c) (k : EnsO (runIts cf l (.int k0 c :: st) fr h) Q) : EnsO (runIts cf (.op (.ar .add k0 x y) :: l) st fr h) Q :=
  w_ar hx hy (by rw [← hc]; rfl) k
theorem w_sub {k0 : IntKind} {x y : X} {a b c : Int} (hx : x.ev st fr = .int k0 a) (hy : y.ev st fr = .int k0 b) (hc : wrapQ k0 (a - b) = c) (k : EnsO (runIts cf l (.int k0 c :: st) fr h) Q) : EnsO (runIts cf (.op (.ar .sub k0 x y) :: l) st fr h) Q :=
  w_ar hx hy (by rw [← hc]; rfl) k
theorem w_mul {k0 : IntKind} {x y : X} {a b c : Int} (hx : x.ev st fr = .int k0 a) (hy : y.ev st fr = .int k0 b) (hc : wrapQ k0 (a * b) = c) (k : EnsO (runIts cf l (.int k0 c :: st) fr h) Q) : EnsO (runIts cf (.op (.ar .mul k0 x y) :: l) st fr h) Q :=
  w_ar hx hy (by rw [← hc]; rfl) k
theorem w_quo {k0 : IntKind} {x y : X} {a b c : Int} (hx : x.ev st fr = .int k0 a) (hy : y.ev st fr = .int k0 b) (h0 : b ≠ 0) (hc : wrapQ k0 (Int.tdiv a b) = c) (k : EnsO (runIts cf l (.int k0 c :: st) fr h) Q) : EnsO (runIts cf (.op (.ar .quo k0 x y) :: l) st fr h) Q :=
  w_ar hx hy (by
    show cond (intEq b 0) R.no _ = _
    have : intEq b 0 = false := by rw [Bool.eq_false_iff]; exact fun e => h0 ((intEq_iff _ _).1 e)
    rw [this, ← hc]
    rfl) k
theorem w_rem {k0 : IntKind} {x y : X} {a b : Int} (hx : x.ev st fr = .int k0 a) (hy : y.ev st fr = .int k0 b) (h0 : b ≠ 0) (k : EnsO (runIts cf l (.int k0 (Int.tmod a b) :: st) fr h) Q) : EnsO (runIts cf (.op (.ar .rem k0 x y) :: l) st fr h) Q :=
  w_ar hx hy (by
    show cond (intEq b 0) R.no _ = _
    have : intEq b 0 = false := by rw [Bool.eq_false_iff]; exact fun e => h0 ((intEq_iff _ _).1 e)
    rw [this]
    rfl) k
theorem w_i2i {k0 k1 : IntKind} {x : X} {a c : Int} (hx : x.ev st fr = .int k1 a) (hc : wrapQ k0 a = c) (k : EnsO (runIts cf l (.int k0 c :: st) fr h) Q) : EnsO (runIts cf (.op (.i2i k0 x) :: l) st fr h) Q := by
  refine w_eq ?_ k
  show cI2i k0 x st fr h = _
  unfold cI2i
  rw [hx, ← hc]
  rfl
theorem mx_int (k0 : IntKind) (a b : Int) : mx2 (.int k0 a) (.int k0 b) = some (.int k0 (max a b)) := by
  show cond (kEq k0 k0) _ _ = _
  rw [kEq_refl, intLe_dec]
  by_cases hp : b ≤ a
  · simp [hp, Int.max_eq_left hp]
  · have : a ≤ b := by omega
    simp [hp, Int.max_eq_right this]
theorem mn_int (k0 : IntKind) (a b : Int) : mn2 (.int k0 a) (.int k0 b) = some (.int k0 (min a b)) := by
  show cond (kEq k0 k0) _ _ = _
  rw [kEq_refl, intLe_dec]
  by_cases hp : a ≤ b
  · simp [hp, Int.min_eq_left hp]
  · have : b ≤ a := by omega
    simp [hp, Int.min_eq_right this]
theorem w_mx2 {k0 : IntKind} {x y : X} {a b : Int} (hx : x.ev st fr = .int k0 a) (hy : y.ev st fr = .int k0 b) (k : EnsO (runIts cf l (.int k0 (max a b) :: st) fr h) Q) : EnsO (runIts cf (.op (.mx [x, y]) :: l) st fr h) Q := by
  refine w_eq ?_ k
  show onSome (mx2 (x.ev st fr) (y.ev st fr)) _ = _
  rw [hx, hy, mx_int]
  rfl
theorem w_mx3 {k0 : IntKind} {x y z : X} {a b c : Int} (hx : x.ev st fr = .int k0 a) (hy : y.ev st fr = .int k0 b) (hz : z.ev st fr = .int k0 c) (k : EnsO (runIts cf l (.int k0 (max (max a b) c) :: st) fr h) Q) : EnsO (runIts cf (.op (.mx [x, y, z]) :: l) st fr h) Q := by
  refine w_eq ?_ k
  show onSome (mx2 (x.ev st fr) (y.ev st fr)) _ = _
  rw [hx, hy, mx_int]
  show onSome (mx2 (.int k0 (max a b)) (z.ev st fr)) _ = _
  rw [hz, mx_int]
  rfl
theorem w_mn2 {k0 : IntKind} {x y : X} {a b : Int} (hx : x.ev st fr = .int k0 a) (hy : y.ev st fr = .int k0 b) (k : EnsO (runIts cf l (.int k0 (min a b) :: st) fr h) Q) : EnsO (runIts cf (.op (.mn [x, y]) :: l) st fr h) Q := by
  refine w_eq ?_ k
  show onSome (mn2 (x.ev st fr) (y.ev st fr)) _ = _
  rw [hx, hy, mn_int]
  rfl
theorem w_len {x : X} {b : P} {o n : Nat} {c : Cp} (hx : x.ev st fr = .sl b o n c) (k : EnsO (runIts cf l (.int .i64 (n : Int) :: st) fr h) Q) : EnsO (runIts cf (.op (.lenL x) :: l) st fr h) Q := by
  refine w_eq ?_ k
  show cLenL x st fr h = _
  unfold cLenL
  rw [hx]
  rfl
theorem w_len0 {x : X} (hx : x.ev st fr = .nilsl) (k : EnsO (runIts cf l (.int .i64 0 :: st) fr h) Q) : EnsO (runIts cf (.op (.lenL x) :: l) st fr h) Q := by
  refine w_eq ?_ k
  show cLenL x st fr h = _
  unfold cLenL
  rw [hx]
  rfl
theorem nat_int {k0 : IntKind} {a : Int} (h0 : 0 ≤ a) : (V.int k0 a).nat = some a.toNat := by
  cases a with
  | ofNat m => rfl
  | negSucc m => omega
theorem w_ixa {es : Nat} {x i : X} {b : P} {o n : Nat} {c : Cp} {k0 : IntKind} {a : Int} (hx : x.ev st fr = .sl b o n c) (hi : i.ev st fr = .int k0 a) (h0 : 0 ≤ a) (h1 : a < n) (k : EnsO (runIts cf l (.ptr b (o + a.toNat * es) :: st) fr h) Q) : EnsO (runIts cf (.op (.ixa es x i) :: l) st fr h) Q := by
  refine w_eq ?_ k
  show cIxa es x i st fr h = _
  unfold cIxa
  rw [hx, hi]
  show onSome (V.int k0 a).nat _ = _
  rw [nat_int h0]
  show cond (Nat.blt a.toNat n) _ _ = _
  rw [(natBlt_iff _ _).2 (by omega)]
  rfl
/-- from a place on, to the end -/
theorem w_from {es : Nat} {x lo : X} {b : P} {o n : Nat} {k0 : IntKind} {a : Int} {cs : List V} {ro : Bool} (hx : x.ev st fr = .sl b o n (.fr es)) (hlo : lo.ev st fr = .int k0 a) (h0 : 0 ≤ a) (h1 : a ≤ n) (hb : h.get b = some (.cells cs ro))
    (k : EnsO (runIts cf l (.sl b (o + a.toNat * es) (n - a.toNat) (.fr es) :: st) fr h) Q) : EnsO (runIts cf (.op (.slc es x (some lo) none none) :: l) st fr h) Q := by
  refine w_eq ?_ k
  show cSlc es x (some lo) none none st fr h = _
  unfold cSlc
  rw [hx]
  show sliceOf es b o n (.fr es) (some lo) none none st fr h = _
  unfold sliceOf
  have hr : roomOf es b o (.fr es) h = some ((cs.length - o) / es) := by
    unfold roomOf H.cells
    rw [hb]
    show cond (Nat.beq es es) (some (Nat.div (Nat.sub (Am.len cs) o) es)) none = _
    rw [(natBeq_iff es es).2 rfl, len_eq]
    rfl
  have hl : bnd (some lo) 0 n st fr = some a.toNat := by
    show (Option.casesOn (motive := fun _ => Option Nat) (lo.ev st fr).nat none (fun i => cond (Nat.ble i n) (some i) none)) = _
    rw [hlo, nat_int h0]
    show cond (Nat.ble a.toNat n) (some a.toNat) none = _
    rw [(natBle_iff _ _).2 (by omega)]
    rfl
  rw [hr]
  show onSome (bnd (some lo) 0 n st fr) _ = _
  rw [hl]
  rfl
end
end Go.Am
namespace Go.Am
theorem get_put_eq (h : H) (b : P) (x : Blk) : (h.put b x).get b = some x := by rw [H.get_put, if_pos rfl]
theorem get_put_ne {h : H} {b c : P} {x y : Blk} (hne : c ≠ b) (e : h.get b = some x) : (h.put c y).get b = some x := by rw [H.get_put, if_neg hne]; exact e
theorem get_al_eq (h : H) (x : Blk) : (h.alloc x).get h.next = some x := by rw [H.get_alloc, if_pos rfl]
theorem get_al_ne {h : H} {b : P} {x y : Blk} (hne : h.next ≠ b) (e : h.get b = some x) : (h.alloc y).get b = some x := by rw [H.get_alloc, if_neg hne]; exact e
theorem ne_num {b c : P} (h : b.num ≠ c.num) : b ≠ c := fun e => h (congrArg P.num e)
section
variable {cf : CallF} {L : Nat} {Q : RE → Fr → H → Prop} {st : St} {fr : Fr} {h : H} {l : List It}
theorem w_app {es bytes : Nat} {s x : X} {b b2 : P} {o o2 n m : Nat} {c2 : Cp} {cs cs2 new : List V} {ro2 : Bool} (hs : s.ev st fr = .sl b o n (.fr es)) (hx : x.ev st fr = .sl b2 o2 m c2) (hb2 : h.get b2 = some (.cells cs2 ro2)) (hb : h.get b = some (.cells cs false)) (hn : takeN (Nat.mul m es) (dropN o2 cs2) = some new)
    (hm : Nat.beq m 0 = false) (hend : cs.length < o + (n + m) * es) (hsz : (n + m) * bytes ≤ 140737488355328) (ho : o + n * es ≤ cs.length)
    (k : EnsO (runIts cf l (.sl h.next 0 (n + m) (.fr es) :: st) fr ((h.put b (.dead [])).alloc (.cells ((cs.drop o).take (n * es) ++ new) false))) Q) : EnsO (runIts cf (.op (.appe es bytes s x) :: l) st fr h) Q := by
  refine w_grow hs hx hb2 hn hm hb ?_ ((natBle_iff _ _).2 hsz) (old := (cs.drop o).take (n * es)) ?_ ?_
  · rw [Bool.eq_false_iff]
    intro e
    have e := (natBle_iff _ _).1 e
    rw [len_eq] at e
    have e : o + (n + m) * es ≤ cs.length := e
    omega
  · rw [dropN_eq, takeN_eq]
    have : Nat.mul n es ≤ (cs.drop o).length := by
      rw [List.length_drop]
      show n * es ≤ _
      omega
    rw [if_pos this]
    rfl
  · rw [app_eq]
    exact k
end

/-! what stays of the memory -/
def Keep (h h' : H) (F : List P) : Prop := h.next.num ≤ h'.next.num ∧ ∀ c, c.num < h.next.num → c ∉ F → h'.get c = h.get c
theorem Keep.refl (h : H) (F : List P) : Keep h h F := ⟨Nat.le_refl _, fun _ _ _ => rfl⟩
theorem Keep.put {h h1 : H} {F : List P} {b : P} {x : Blk} (k : Keep h h1 F) (hb : b ∈ F) : Keep h (h1.put b x) F :=
  ⟨k.1, fun c hc hn => by rw [H.get_put, if_neg (fun e : b = c => hn (e ▸ hb))]; exact k.2 c hc hn⟩
theorem Keep.put' {h h1 : H} {F : List P} {b : P} {x : Blk} (k : Keep h h1 F) (hb : h.next.num ≤ b.num) : Keep h (h1.put b x) F :=
  ⟨k.1, fun c hc hn => by rw [H.get_put, if_neg (fun e => by rw [e] at hb; omega)]; exact k.2 c hc hn⟩
theorem Keep.alloc {h h1 : H} {F : List P} {x : Blk} (k : Keep h h1 F) : Keep h (h1.alloc x) F :=
  ⟨by rw [H.next_alloc]; have := k.1; omega, fun c hc hn => by rw [H.get_alloc, if_neg (fun e => by have := k.1; rw [e] at this; omega)]; exact k.2 c hc hn⟩
theorem Keep.trans {h h1 h2 : H} {F G : List P} (k : Keep h h1 F) (g : Keep h1 h2 G) : Keep h h2 (F ++ G) :=
  ⟨Nat.le_trans k.1 g.1, fun c hc hn => by rw [g.2 c (Nat.lt_of_lt_of_le hc k.1) (fun e => hn (List.mem_append_right _ e)), k.2 c hc (fun e => hn (List.mem_append_left _ e))]⟩
theorem Keep.mono {h h1 : H} {F G : List P} (k : Keep h h1 F) (g : ∀ b ∈ F, b ∈ G ∨ h.next.num ≤ b.num) : Keep h h1 G :=
  ⟨k.1, fun c hc hn => k.2 c hc fun e => (g c e).elim hn (fun h => by omega)⟩
theorem Keep.get {h h' : H} {F : List P} (k : Keep h h' F) {b : P} {x : Blk} (e : h.get b = some x) (hn : b.num < h.next.num) (hF : b ∉ F) : h'.get b = some x := by rw [k.2 b hn hF]; exact e

/-- a slice of elements of es cells: nil; or to the end of its block; or with no room beyond -/
def Sl (es : Nat) (h : H) (v : V) (F : List P) (xs : List (List V)) : Prop :=
  (v = .nilsl ∧ F = [] ∧ xs = []) ∨ ∃ s o cs c, v = .sl s o xs.length c ∧ F = [s] ∧ h.get s = some (.cells cs false) ∧ ((c = .fr es ∧ o + xs.length * es = cs.length) ∨ (c = .ex xs.length ∧ o + xs.length * es ≤ cs.length)) ∧ (cs.drop o).take (xs.length * es) = xs.flatten ∧ (∀ x ∈ xs, x.length = es) ∧ s.num < h.next.num
theorem Sl.keep {es : Nat} {h h' : H} {v : V} {F G : List P} {xs : List (List V)} (s : Sl es h v F xs) (k : Keep h h' G) (hd : ∀ b ∈ F, b ∉ G) : Sl es h' v F xs := by
  rcases s with s | ⟨s, o, cs, c, h1, h2, h3, h4, h5, h6, h7⟩
  · exact .inl s
  · subst h2
    exact .inr ⟨s, o, cs, c, h1, rfl, k.get h3 h7 (hd s (by simp)), h4, h5, h6, by have := k.1; omega⟩
theorem take_flat {es : Nat} : ∀ (xs : List (List V)), (∀ x ∈ xs, x.length = es) → xs.flatten.length = xs.length * es
  | [], _ => by simp
  | x :: xs, h => by
    have := take_flat xs (fun y hy => h y (List.mem_cons_of_mem _ hy))
    rw [List.flatten_cons, List.length_append, this, h x List.mem_cons_self, List.length_cons, Nat.add_mul]
    omega
theorem flat_at {es : Nat} : ∀ (xs : List (List V)) (i : Nat) (x : List V), (∀ x ∈ xs, x.length = es) → xs[i]? = some x → (xs.flatten.drop (i * es)).take es = x
  | [], i, x, _, h => by simp at h
  | y :: xs, 0, x, hl, h => by
    obtain rfl : y = x := by simpa using h
    have := hl y List.mem_cons_self
    simp [← this]
  | y :: xs, i + 1, x, hl, h => by
    have h1 := flat_at xs i x (fun z hz => hl z (List.mem_cons_of_mem _ hz)) (by simpa using h)
    have hy := hl y List.mem_cons_self
    rw [List.flatten_cons, Nat.add_mul, Nat.one_mul]
    have : (y ++ xs.flatten).drop (i * es + es) = xs.flatten.drop (i * es) := by
      rw [List.drop_append, hy, List.drop_of_length_le (by omega)]
      simp
    rw [this, h1]
theorem flat_drop {es : Nat} : ∀ (xs : List (List V)) (a : Nat), (∀ x ∈ xs, x.length = es) → (xs.drop a).flatten = xs.flatten.drop (a * es)
  | xs, 0, _ => by simp
  | [], a + 1, _ => by simp
  | y :: xs, a + 1, hl => by
    have hy := hl y List.mem_cons_self
    have h1 := flat_drop xs a (fun z hz => hl z (List.mem_cons_of_mem _ hz))
    have h2 : (a + 1) * es - y.length = a * es := by rw [Nat.add_mul, hy]; omega
    have h3 : y.drop ((a + 1) * es) = [] := List.drop_of_length_le (by rw [Nat.add_mul, hy]; omega)
    rw [List.drop_succ_cons, h1, List.flatten_cons, List.drop_append, h2, h3]
    rfl

section
variable {cf : CallF} {L : Nat} {Q : RE → Fr → H → Prop} {st : St} {fr : Fr} {h : H} {l : List It} {es : Nat} {F : List P} {xs : List (List V)} {vs : V}
theorem Sl.nilsl (es : Nat) (h : H) : Sl es h .nilsl [] [] := .inl ⟨rfl, rfl, rfl⟩
theorem w_sl_len {x : X} (S : Sl es h vs F xs) (hx : x.ev st fr = vs) (k : EnsO (runIts cf l (.int .i64 (xs.length : Int) :: st) fr h) Q) : EnsO (runIts cf (.op (.lenL x) :: l) st fr h) Q := by
  rcases S with ⟨rfl, rfl, rfl⟩ | ⟨s, o, cs, c, rfl, _⟩
  · exact w_len0 hx k
  · exact w_len hx k
theorem Sl.onCells {R' : Nat → List V → R} (S : Sl es h vs F xs) : onCells es vs h R' = R' xs.length xs.flatten := by
  rcases S with ⟨rfl, rfl, rfl⟩ | ⟨s, o, cs, c, rfl, _, h3, h4, h5, _⟩
  · rfl
  · show onSome (h.read s o (Nat.mul xs.length es)) (R' xs.length) = _
    unfold H.read H.cells
    rw [h3]
    show onSome (takeN (xs.length * es) (dropN o cs)) _ = _
    have hle : xs.length * es ≤ (cs.drop o).length := by rw [List.length_drop]; rcases h4 with ⟨_, h4⟩ | ⟨_, h4⟩ <;> omega
    rw [dropN_eq, takeN_eq, if_pos hle]
    show R' xs.length ((cs.drop o).take (xs.length * es)) = _
    rw [h5]
theorem cat_core {bytes : Nat} (S : Sl es h vs F xs) (ys : List (List V)) (hy : ∀ y ∈ ys, y.length = es) (hes : 0 < es) (hsz : (xs.length + ys.length) * bytes ≤ 140737488355328) :
    ∃ v' h' F', onSl vs (appNil es bytes ys.length ys.flatten h) (fun b o n c => appTo es bytes ys.length ys.flatten b o n c h) = .ok v' h' ∧ Sl es h' v' F' (xs ++ ys) ∧ Keep h h' F ∧ (∀ c ∈ F', c ∈ F ∨ h.next.num ≤ c.num) ∧ (ys ≠ [] → (∃ m, F' = [m] ∧ m.num = h.next.num) ∧ h'.next.num = h.next.num + 1) := by
  cases hm : ys.length with
  | zero =>
    have hn : ys = [] := List.length_eq_zero_iff.1 hm
    subst hn
    refine ⟨vs, h, F, ?_, by rw [List.append_nil]; exact S, Keep.refl _ _, fun c hc => .inl hc, fun hh => absurd rfl hh⟩
    rcases S with ⟨rfl, rfl, rfl⟩ | ⟨s, o, cs, c, rfl, _⟩ <;> rfl
  | succ m =>
    have hm0 : Nat.beq ys.length 0 = false := by rw [hm]; rfl
    have hfy := take_flat ys hy
    rw [← hm]
    rcases S with ⟨rfl, rfl, rfl⟩ | ⟨s, o, cs, c, rfl, rfl, h3, h4, h5, h6, h7⟩
    · refine ⟨.sl h.next 0 ys.length (.fr es), h.alloc (.cells ys.flatten false), [h.next], ?_, ?_, (Keep.refl _ _).alloc, fun c hc => .inr (by rw [List.mem_singleton.1 hc]; exact Nat.le_refl _), fun _ => ⟨⟨_, rfl, rfl⟩, H.next_alloc _ _⟩⟩
      · show appNil es bytes ys.length ys.flatten h = _
        unfold appNil
        rw [hm0, (natBle_iff (Nat.mul ys.length bytes) 140737488355328).2 (by simpa using hsz)]
        rfl
      · exact .inr ⟨h.next, 0, ys.flatten, .fr es, by simp, rfl, get_al_eq _ _, .inl ⟨rfl, by simp [hfy]⟩, by rw [List.drop_zero, List.nil_append, List.take_of_length_le (by omega)], by simpa using hy, by rw [H.next_alloc]; omega⟩
    · have hfx := take_flat xs h6
      have hle : o + xs.length * es ≤ cs.length := by rcases h4 with ⟨_, h4⟩ | ⟨_, h4⟩ <;> omega
      have hyl : 0 < ys.length := by omega
      have hye : es ≤ ys.length * es := by have := Nat.mul_le_mul_right es hyl; simpa using this
      have grow_eq : ∀ h0 : H, grow es bytes o xs.length ys.length cs ys.flatten h0 = .ok (.sl h0.next 0 (xs.length + ys.length) (.fr es)) (h0.alloc (.cells (xs.flatten ++ ys.flatten) false)) := by
        intro h0
        unfold grow
        rw [(natBle_iff (Nat.mul (Nat.add xs.length ys.length) bytes) 140737488355328).2 hsz]
        show onSome (takeN (Nat.mul xs.length es) (dropN o cs)) _ = _
        rw [dropN_eq, takeN_eq, if_pos (by rw [List.length_drop]; show xs.length * es ≤ _; omega)]
        show R.ok _ (h0.alloc (.cells (app ((cs.drop o).take (xs.length * es)) ys.flatten) false)) = _
        rw [h5, app_eq]
        rfl
      have fin : ∀ h0 : H, Sl es (h0.alloc (.cells (xs.flatten ++ ys.flatten) false)) (.sl h0.next 0 (xs.length + ys.length) (.fr es)) [h0.next] (xs ++ ys) := by
        intro h0
        refine .inr ⟨h0.next, 0, xs.flatten ++ ys.flatten, .fr es, by simp, rfl, get_al_eq _ _, .inl ⟨rfl, ?_⟩, ?_, ?_, by rw [H.next_alloc]; omega⟩
        · rw [List.length_append, List.length_append, hfx, hfy, Nat.add_mul]; omega
        · rw [List.drop_zero, List.flatten_append, List.take_of_length_le (by rw [List.length_append, List.length_append, hfx, hfy, Nat.add_mul]; exact Nat.le_refl _)]
        · intro y hy2
          rcases List.mem_append.1 hy2 with hy2 | hy2
          · exact h6 y hy2
          · exact hy y hy2
      rcases h4 with ⟨rfl, h4⟩ | ⟨rfl, h4⟩
      · refine ⟨_, _, _, ?_, fin (h.put s (.dead [])), (Keep.put (Keep.refl _ _) (by simp)).alloc, fun c hc => .inr (by rw [List.mem_singleton.1 hc]; exact Nat.le_refl _), fun _ => ⟨⟨_, rfl, rfl⟩, H.next_alloc _ _⟩⟩
        show appTo es bytes ys.length ys.flatten s o xs.length (.fr es) h = _
        unfold appTo
        rw [hm0, h3]
        have hend : Nat.ble (Nat.add o (Nat.mul (Nat.add xs.length ys.length) es)) (Am.len cs) = false := by
          rw [Bool.eq_false_iff]
          intro e
          have e := (natBle_iff _ _).1 e
          rw [len_eq] at e
          have e : o + (xs.length + ys.length) * es ≤ cs.length := e
          rw [Nat.add_mul] at e
          omega
        show cond (Nat.beq es es) (cond (Nat.ble (Nat.add o (Nat.mul (Nat.add xs.length ys.length) es)) (Am.len cs)) _ (cond false R.no (grow es bytes o xs.length ys.length cs ys.flatten (h.put s (.dead []))))) R.no = _
        rw [(natBeq_iff es es).2 rfl, hend]
        exact grow_eq _
      · refine ⟨_, _, _, ?_, fin h, (Keep.refl _ _).alloc, fun c hc => .inr (by rw [List.mem_singleton.1 hc]; exact Nat.le_refl _), fun _ => ⟨⟨_, rfl, rfl⟩, H.next_alloc _ _⟩⟩
        show appTo es bytes ys.length ys.flatten s o xs.length (.ex xs.length) h = _
        unfold appTo
        rw [hm0, h3]
        show cond (Nat.ble (Nat.add xs.length ys.length) xs.length) _ (grow es bytes o xs.length ys.length cs ys.flatten h) = _
        have hend : Nat.ble (Nat.add xs.length ys.length) xs.length = false := by
          rw [Bool.eq_false_iff]
          intro e
          have e := (natBle_iff _ _).1 e
          have e : xs.length + ys.length ≤ xs.length := e
          omega
        rw [hend]
        exact grow_eq h
theorem w_sl_cat {bytes : Nat} {s x : X} {v2 : V} {F2 : List P} {ys : List (List V)} (S : Sl es h vs F xs) (S2 : Sl es h v2 F2 ys) (hes : 0 < es) (hsz : (xs.length + ys.length) * bytes ≤ 140737488355328) (hs : s.ev st fr = vs) (hx : x.ev st fr = v2)
    (k : ∀ v' h' F', Sl es h' v' F' (xs ++ ys) → Keep h h' F → (∀ c ∈ F', c ∈ F ∨ h.next.num ≤ c.num) → EnsO (runIts cf l (v' :: st) fr h') Q) : EnsO (runIts cf (.op (.appe es bytes s x) :: l) st fr h) Q := by
  have hy : ∀ y ∈ ys, y.length = es := by
    rcases S2 with ⟨_, _, rfl⟩ | ⟨_, _, _, _, _, _, _, _, _, h6, _⟩
    · intro y hy; cases hy
    · exact h6
  obtain ⟨v', h', F', e1, e2, e3, e4, _⟩ := cat_core S ys hy hes hsz
  refine w_eq (v := v') (h' := h') ?_ (k v' h' F' e2 e3 e4)
  show cAppe es bytes s x st fr h = _
  unfold cAppe
  rw [hx, S2.onCells, hs]
  exact e1
theorem w_sl_app {bytes : Nat} {s x : X} {b2 : P} {o2 : Nat} {c2 : Cp} {cs2 e : List V} {ro2 : Bool} (S : Sl es h vs F xs) (hs : s.ev st fr = vs) (hx : x.ev st fr = .sl b2 o2 1 c2) (hb2 : h.get b2 = some (.cells cs2 ro2)) (hn : takeN (Nat.mul 1 es) (dropN o2 cs2) = some e)
    (hes : 0 < es) (hsz : (xs.length + 1) * bytes ≤ 140737488355328)
    (k : ∀ vs' h' m, Sl es h' vs' [m] (xs ++ [e]) → Keep h h' F → m.num = h.next.num → h'.next.num = h.next.num + 1 → EnsO (runIts cf l (vs' :: st) fr h') Q) : EnsO (runIts cf (.op (.appe es bytes s x) :: l) st fr h) Q := by
  have he : e.length = es := by
    obtain ⟨h1, rfl⟩ := takeN_some hn
    rw [List.length_take]
    have h1 : 1 * es ≤ (dropN o2 cs2).length := h1
    show min (1 * es) _ = es
    omega
  obtain ⟨v', h', F', e1, e2, e3, e4, e5⟩ := cat_core S [e] (by simpa using he) hes hsz
  obtain ⟨⟨m, rfl, hm⟩, hn2⟩ := e5 (by simp)
  refine w_eq (v := v') (h' := h') ?_ (k v' h' m e2 e3 hm hn2)
  show cAppe es bytes s x st fr h = _
  unfold cAppe
  rw [hx, hs]
  show onSome (h.read b2 o2 (Nat.mul 1 es)) _ = _
  unfold H.read H.cells
  rw [hb2]
  show onSome (takeN (Nat.mul 1 es) (dropN o2 cs2)) _ = _
  rw [hn]
  show onSl vs (appNil es bytes 1 e h) (fun b o n c => appTo es bytes 1 e b o n c h) = _
  have : [e].flatten = e := by simp
  rw [this] at e1
  exact e1
theorem w_sl_ix {x i : X} {k0 : IntKind} {a : Int} (S : Sl es h vs F xs) (hx : x.ev st fr = vs) (hi : i.ev st fr = .int k0 a) (h0 : 0 ≤ a) (h1 : a < xs.length)
    (k : ∀ s o cs e, h.get s = some (.cells cs false) → xs[a.toNat]? = some e → takeN es (dropN o cs) = some e → s ∈ F → EnsO (runIts cf l (.ptr s o :: st) fr h) Q) : EnsO (runIts cf (.op (.ixa es x i) :: l) st fr h) Q := by
  rcases S with ⟨rfl, rfl, rfl⟩ | ⟨s0, o, cs, c, rfl, rfl, h3, h4, h5, h6, h7⟩
  · simp at h1; omega
  · have hlt : a.toNat < xs.length := by omega
    have hle0 : o + xs.length * es ≤ cs.length := by rcases h4 with ⟨_, h4⟩ | ⟨_, h4⟩ <;> omega
    refine w_ixa hx hi h0 h1 (k s0 (o + a.toNat * es) cs xs[a.toNat] h3 (by simp [hlt]) ?_ (by simp))
    have hx : xs[a.toNat]? = some xs[a.toNat] := by simp [hlt]
    have hf := flat_at xs a.toNat _ h6 hx
    have hle : (a.toNat + 1) * es ≤ xs.length * es := Nat.mul_le_mul_right _ hlt
    rw [Nat.add_mul] at hle
    rw [dropN_eq, takeN_eq, if_pos (by rw [List.length_drop]; omega), ← List.drop_drop]
    rw [← h5, List.drop_take, List.take_take] at hf
    rw [← hf]
    congr 2
    omega
theorem bnd_int {x : X} {k0 : IntKind} {a : Int} {dflt y : Nat} (hx : x.ev st fr = .int k0 a) (h0 : 0 ≤ a) (h1 : a ≤ y) : bnd (some x) dflt y st fr = some a.toNat := by
  show (Option.casesOn (motive := fun _ => Option Nat) (x.ev st fr).nat none (fun i => cond (Nat.ble i y) (some i) none)) = _
  rw [hx, nat_int h0]
  show cond (Nat.ble a.toNat y) (some a.toNat) none = _
  rw [(natBle_iff _ _).2 (by omega)]
  rfl
theorem Sl.room {s : P} {o n : Nat} {c : Cp} {cs : List V} (hes : 0 < es) (h3 : h.get s = some (.cells cs false)) (h4 : (c = .fr es ∧ o + n * es = cs.length) ∨ (c = .ex n ∧ o + n * es ≤ cs.length)) : roomOf es s o c h = some n := by
  rcases h4 with ⟨rfl, h4⟩ | ⟨rfl, h4⟩
  · unfold roomOf H.cells
    rw [h3]
    show cond (Nat.beq es es) (some (Nat.div (Nat.sub (Am.len cs) o) es)) none = _
    rw [(natBeq_iff es es).2 rfl, len_eq]
    show some ((cs.length - o) / es) = _
    rw [show cs.length - o = n * es by omega, Nat.mul_div_cancel _ hes]
  · rfl
theorem w_sl_from {x lo : X} {k0 : IntKind} {a : Int} (S : Sl es h vs F xs) (hx : x.ev st fr = vs) (hlo : lo.ev st fr = .int k0 a) (h0 : 0 ≤ a) (h1 : a ≤ xs.length) (h2 : 0 < xs.length) (hes : 0 < es)
    (k : ∀ vs', Sl es h vs' F (xs.drop a.toNat) → EnsO (runIts cf l (vs' :: st) fr h) Q) : EnsO (runIts cf (.op (.slc es x (some lo) none none) :: l) st fr h) Q := by
  rcases S with ⟨rfl, rfl, rfl⟩ | ⟨s0, o, cs, c, rfl, rfl, h3, h4, h5, h6, h7⟩
  · simp at h2
  · have hle : a.toNat ≤ xs.length := by omega
    have hm := Nat.mul_le_mul_right es hle
    have S' : Sl es h (.sl s0 (o + a.toNat * es) (xs.length - a.toNat) (capAft none c xs.length a.toNat)) [s0] (xs.drop a.toNat) := by
      refine .inr ⟨s0, o + a.toNat * es, cs, capAft none c xs.length a.toNat, by simp, rfl, h3, ?_, ?_, fun y hy => h6 y (List.mem_of_mem_drop hy), h7⟩
      · rw [List.length_drop, Nat.sub_mul]
        rcases h4 with ⟨rfl, h4⟩ | ⟨rfl, h4⟩
        · exact .inl ⟨rfl, by omega⟩
        · exact .inr ⟨rfl, by omega⟩
      · rw [flat_drop xs _ h6, ← h5, List.length_drop, Nat.sub_mul, List.drop_take, List.drop_drop]
    refine w_eq ?_ (k _ S')
    show cSlc es x (some lo) none none st fr h = _
    unfold cSlc
    rw [hx]
    show sliceOf es s0 o xs.length c (some lo) none none st fr h = _
    unfold sliceOf
    rw [Sl.room hes h3 h4]
    show onSome (bnd (some lo) 0 xs.length st fr) _ = _
    rw [bnd_int hlo h0 h1]
    rfl
/-- the first of them, with no room beyond -/
theorem w_sl_to {x hi mx : X} {k0 : IntKind} {a : Int} (S : Sl es h vs F xs) (hx : x.ev st fr = vs) (hhi : hi.ev st fr = .int k0 a) (hmx : mx.ev st fr = .int k0 a) (h0 : 0 ≤ a) (h1 : a ≤ xs.length) (h2 : 0 < xs.length) (hes : 0 < es)
    (k : ∀ vs', Sl es h vs' F (xs.take a.toNat) → EnsO (runIts cf l (vs' :: st) fr h) Q) : EnsO (runIts cf (.op (.slc es x none (some hi) (some mx)) :: l) st fr h) Q := by
  rcases S with ⟨rfl, rfl, rfl⟩ | ⟨s0, o, cs, c, rfl, rfl, h3, h4, h5, h6, h7⟩
  · simp at h2
  · have hle : a.toNat ≤ xs.length := by omega
    have hm := Nat.mul_le_mul_right es hle
    have hle0 : o + xs.length * es ≤ cs.length := by rcases h4 with ⟨_, h4⟩ | ⟨_, h4⟩ <;> omega
    have hlen : (xs.take a.toNat).length = a.toNat := by rw [List.length_take]; omega
    have S' : Sl es h (.sl s0 o a.toNat (.ex a.toNat)) [s0] (xs.take a.toNat) := by
      refine .inr ⟨s0, o, cs, .ex a.toNat, by rw [hlen], rfl, h3, .inr ⟨by rw [hlen], by rw [hlen]; omega⟩, ?_, fun y hy => h6 y (List.mem_of_mem_take hy), h7⟩
      have e1 : (xs.take a.toNat).flatten = xs.flatten.take (a.toNat * es) := by
        have hs : xs.flatten = (xs.take a.toNat).flatten ++ (xs.drop a.toNat).flatten := by rw [← List.flatten_append, List.take_append_drop]
        have hl := take_flat (xs.take a.toNat) (fun y hy => h6 y (List.mem_of_mem_take hy))
        rw [hlen] at hl
        rw [hs, List.take_append, hl, List.take_of_length_le (Nat.le_of_eq hl)]
        simp
      rw [hlen, e1, ← h5, List.take_take]
      congr 1
      omega
    refine w_eq ?_ (k _ S')
    show cSlc es x none (some hi) (some mx) st fr h = _
    unfold cSlc
    rw [hx]
    show sliceOf es s0 o xs.length c none (some hi) (some mx) st fr h = _
    unfold sliceOf
    rw [Sl.room hes h3 h4]
    show onSome (bnd (some mx) xs.length xs.length st fr) _ = _
    rw [bnd_int hmx h0 h1]
    show onSome (bnd (some hi) xs.length a.toNat st fr) _ = _
    rw [bnd_int hhi h0 (by omega)]
    show R.ok (.sl s0 (o + 0 * es) (a.toNat - 0) (.ex (a.toNat - 0))) h = _
    rw [Nat.zero_mul, Nat.add_zero, Nat.sub_zero]
end

theorem Sl.put {es : Nat} {h : H} {v : V} {F : List P} {xs : List (List V)} {b : P} {y : Blk} (s : Sl es h v F xs) (hb : b ∉ F) : Sl es (h.put b y) v F xs :=
  s.keep (G := [b]) ((Keep.refl h [b]).put (by simp)) (fun c hc hn => hb (by rw [List.mem_singleton] at hn; rw [← hn]; exact hc))
theorem Sl.alloc {es : Nat} {h : H} {v : V} {F : List P} {xs : List (List V)} {y : Blk} (s : Sl es h v F xs) : Sl es (h.alloc y) v F xs :=
  s.keep (G := []) (Keep.refl h []).alloc (fun c _ hn => by cases hn)
theorem Sl.lt {es : Nat} {h : H} {v : V} {F : List P} {xs : List (List V)} (s : Sl es h v F xs) : ∀ b ∈ F, b.num < h.next.num := by
  rcases s with ⟨_, rfl, _⟩ | ⟨s0, o, cs, c, _, rfl, _, _, _, _, h7⟩
  · intro b hb; cases hb
  · intro b hb
    rw [List.mem_singleton.1 hb]; exact h7

section
variable {cf : CallF} {L : Nat} {Q : RE → Fr → H → Prop} {st : St} {fr : Fr} {h : H} {l : List It} {es : Nat} {F : List P} {xs : List (List V)} {vs : V}
theorem w_st_v {a x : X} {b : P} {o : Nat} {cs cs' : List V} {v : V} (hx : x.ev st fr = v) (hf : v.flat1 = some [v]) (ha : a.ev st fr = .ptr b o) (hb : h.get b = some (.cells cs false)) (hv : putAt o [v] cs = some cs')
    (k : EnsO (runIts cf l (.tup [] :: st) fr (h.put b (.cells cs' false))) Q) : EnsO (runIts cf (.op (.st 1 a x) :: l) st fr h) Q := w_st ha (by rw [hx]; exact hf) rfl hb hv k
theorem w_st_int {a x : X} {b : P} {o : Nat} {cs cs' : List V} {k0 : IntKind} {n : Int} (hx : x.ev st fr = .int k0 n) (ha : a.ev st fr = .ptr b o) (hb : h.get b = some (.cells cs false)) (hv : putAt o [.int k0 n] cs = some cs')
    (k : EnsO (runIts cf l (.tup [] :: st) fr (h.put b (.cells cs' false))) Q) : EnsO (runIts cf (.op (.st 1 a x) :: l) st fr h) Q := w_st_v hx rfl ha hb hv k
theorem Sl.flat {es : Nat} {h : H} {v : V} {F : List P} {xs : List (List V)} (S : Sl es h v F xs) : v.flat1 = some [v] := by
  rcases S with ⟨rfl, _⟩ | ⟨s, o, cs, c, rfl, _⟩ <;> rfl
theorem w_st_sl {a x : X} {b : P} {o : Nat} {cs cs' : List V} {h0 : H} (S : Sl es h0 vs F xs) (hx : x.ev st fr = vs) (ha : a.ev st fr = .ptr b o) (hb : h.get b = some (.cells cs false)) (hv : putAt o [vs] cs = some cs')
    (k : EnsO (runIts cf l (.tup [] :: st) fr (h.put b (.cells cs' false))) Q) : EnsO (runIts cf (.op (.st 1 a x) :: l) st fr h) Q := w_st_v hx S.flat ha hb hv k
theorem w_st_agg {n : Nat} {a x : X} {b : P} {o : Nat} {cs cs' vs : List V} (hx : x.ev st fr = .agg vs) (hn : Nat.beq (Am.len vs) n = true) (ha : a.ev st fr = .ptr b o) (hb : h.get b = some (.cells cs false)) (hv : putAt o vs cs = some cs')
    (k : EnsO (runIts cf l (.tup [] :: st) fr (h.put b (.cells cs' false))) Q) : EnsO (runIts cf (.op (.st n a x) :: l) st fr h) Q := w_st ha (by rw [hx]; rfl) hn hb hv k
/-- one element of one cell -/
theorem w_one_int {z : V} {x : X} {k0 : IntKind} {n : Int} (hx : x.ev st fr = .int k0 n) (k : EnsO (runIts cf l (.sl h.next 0 1 (.ex 1) :: st) fr (h.alloc (.cells [.int k0 n] false))) Q) : EnsO (runIts cf (.op (.bslice 1 1 [z] [(0, 1, x)]) :: l) st fr h) Q := by
  refine w_eq ?_ k
  show onSome (fill [(0, 1, x)] st fr [z]) _ = _
  have : fill [(0, 1, x)] st fr [z] = some [.int k0 n] := by
    show (Option.casesOn (motive := fun _ => Option (List V)) (x.ev st fr).flat1 none _) = _
    rw [hx]
    rfl
  rw [this]
  rfl
/-- one element of several cells -/
theorem w_one_agg {es : Nat} {z : List V} {x : X} {vs : List V} (hx : x.ev st fr = .agg vs) (he : vs.length = es) (hz : z.length = es) (k : EnsO (runIts cf l (.sl h.next 0 1 (.ex 1) :: st) fr (h.alloc (.cells vs false))) Q) : EnsO (runIts cf (.op (.bslice es 1 z [(0, es, x)]) :: l) st fr h) Q := by
  refine w_eq ?_ k
  show onSome (fill [(0, es, x)] st fr z) _ = _
  have : fill [(0, es, x)] st fr z = some vs := by
    show (Option.casesOn (motive := fun _ => Option (List V)) (x.ev st fr).flat1 none _) = _
    rw [hx]
    show (Option.casesOn (motive := fun _ => Option (List V)) (fill1 es 0 vs z) none (fun cs => some cs)) = _
    have e : fill1 es 0 vs z = some vs := by
      show cond (Nat.beq (Am.len vs) es) (putAt 0 vs z) none = _
      rw [len_eq, (natBeq_iff _ _).2 he]
      show putN vs z = _
      have : ∀ (vs z : List V), vs.length = z.length → putN vs z = some vs := by
        intro vs
        induction vs with
        | nil => intro z hz; cases z with | nil => rfl | cons => simp at hz
        | cons v vs ih =>
          intro z hz
          cases z with
          | nil => simp at hz
          | cons w z =>
            show (Option.casesOn (motive := fun _ => Option (List V)) (putN vs z) none (fun r => some (v :: r))) = _
            rw [ih z (by simpa using hz)]
      exact this vs z (by omega)
    rw [e]
  rw [this]
  rfl
end
end Go.Am
namespace Go.Am
theorem ni1 {b c : P} (h : c.num ≠ b.num) : c ∉ [b] := by rw [List.mem_singleton]; exact ne_num h
theorem niC {b c : P} {F : List P} (h : c.num ≠ b.num) (k : c ∉ F) : c ∉ b :: F := by
  rw [List.mem_cons]; rintro (e | e); exact ne_num h e; exact k e
theorem niA {c : P} {F G : List P} (h : c ∉ F) (k : c ∉ G) : c ∉ F ++ G := by
  rw [List.mem_append]; rintro (e | e); exact h e; exact k e
theorem ni0 {c : P} : c ∉ ([] : List P) := by simp
theorem nF0 {F : List P} : ∀ x ∈ F, x ∉ ([] : List P) := by simp
theorem nF1 {b : P} {F : List P} (h : b ∉ F) : ∀ x ∈ F, x ∉ [b] := fun x hx e => h (by rw [← List.mem_singleton.1 e]; exact hx)
theorem nFC {b : P} {F G : List P} (h : b ∉ F) (k : ∀ x ∈ F, x ∉ G) : ∀ x ∈ F, x ∉ b :: G := fun x hx e => by
  rcases List.mem_cons.1 e with e | e
  · exact h (e ▸ hx)
  · exact k x hx e
theorem nFA {F G G' : List P} (h : ∀ x ∈ F, x ∉ G) (k : ∀ x ∈ F, x ∉ G') : ∀ x ∈ F, x ∉ G ++ G' := fun x hx => niA (h x hx) (k x hx)
theorem dj_symm {F G : List P} (h : ∀ x ∈ F, x ∉ G) : ∀ x ∈ G, x ∉ F := fun x hx e => h x e hx
theorem Sl.new {es : Nat} {h : H} {v : V} {F : List P} {xs : List (List V)} {n : P} (s : Sl es h v F xs) (hn : n.num = h.next.num) : n ∉ F := fun e => by have := s.lt n e; omega
theorem Keep.lt {h h' : H} {F : List P} {b : P} (k : Keep h h' F) (hb : b.num < h.next.num) : b.num < h'.next.num := Nat.lt_of_lt_of_le hb k.1

theorem takeN_nth {es : Nat} {cs e : List V} {o j : Nat} {v : V} (h : takeN es (dropN o cs) = some e) (hj : e[j]? = some v) : nth cs (o + j) = some v := by
  obtain ⟨_, rfl⟩ := takeN_some h
  rw [dropN_eq] at hj
  rw [nth_eq]
  rw [List.getElem?_take] at hj
  split at hj
  · rw [List.getElem?_drop] at hj
    exact hj
  · cases hj

section
variable {cf : CallF} {L : Nat} {Q : RE → Fr → H → Prop} {st : St} {fr : Fr} {h : H} {l : List It} {es : Nat} {F : List P} {xs : List (List V)} {vs : V}
theorem m_st_int {a x : X} {b : P} {o : Nat} {cs cs' : List V} {k0 : IntKind} {n : Int} (hb : h.get b = some (.cells cs false)) (hx : x.ev st fr = .int k0 n) (ha : a.ev st fr = .ptr b o) (hv : putAt o [.int k0 n] cs = some cs')
    (k : ∀ h', h'.get b = some (.cells cs' false) → Keep h h' [b] → EnsO (runIts cf l (.tup [] :: st) fr h') Q) : EnsO (runIts cf (.op (.st 1 a x) :: l) st fr h) Q :=
  w_st_int hx ha hb hv (k _ (get_put_eq _ _ _) ((Keep.refl _ _).put (by simp)))
theorem m_st_v {a x : X} {b : P} {o : Nat} {cs cs' : List V} {v : V} (hb : h.get b = some (.cells cs false)) (hf : v.flat1 = some [v]) (hx : x.ev st fr = v) (ha : a.ev st fr = .ptr b o) (hv : putAt o [v] cs = some cs')
    (k : ∀ h', h'.get b = some (.cells cs' false) → Keep h h' [b] → EnsO (runIts cf l (.tup [] :: st) fr h') Q) : EnsO (runIts cf (.op (.st 1 a x) :: l) st fr h) Q :=
  w_st_v hx hf ha hb hv (k _ (get_put_eq _ _ _) ((Keep.refl _ _).put (by simp)))
theorem m_st_agg {n : Nat} {a x : X} {b : P} {o : Nat} {cs cs' vs : List V} (hb : h.get b = some (.cells cs false)) (hx : x.ev st fr = .agg vs) (ha : a.ev st fr = .ptr b o) (hn : Nat.beq (Am.len vs) n = true) (hv : putAt o vs cs = some cs')
    (k : ∀ h', h'.get b = some (.cells cs' false) → Keep h h' [b] → EnsO (runIts cf l (.tup [] :: st) fr h') Q) : EnsO (runIts cf (.op (.st n a x) :: l) st fr h) Q :=
  w_st_agg hx hn ha hb hv (k _ (get_put_eq _ _ _) ((Keep.refl _ _).put (by simp)))
theorem m_alloc {z : List V} (k : ∀ n h', h'.get n = some (.cells z false) → Keep h h' [] → n.num = h.next.num → h'.next.num = h.next.num + 1 → EnsO (runIts cf l (.ptr n 0 :: st) fr h') Q) : EnsO (runIts cf (.op (.alloc z) :: l) st fr h) Q :=
  w_eq rfl (k _ _ (get_al_eq _ _) (Keep.refl _ _).alloc rfl (H.next_alloc _ _))
theorem m_box {x : X} {cs : List V} {v : V} (hx : x.ev st fr = v) (hf : v.flat1 = some cs) (k : ∀ n h', h'.get n = some (.cells cs false) → Keep h h' [] → n.num = h.next.num → h'.next.num = h.next.num + 1 → EnsO (runIts cf l (.ptr n 0 :: st) fr h') Q) : EnsO (runIts cf (.op (.box x) :: l) st fr h) Q := by
  refine w_eq (v := .ptr h.next 0) (h' := h.alloc (.cells cs false)) ?_ (k _ _ (get_al_eq _ _) (Keep.refl _ _).alloc rfl (H.next_alloc _ _))
  show onSome (x.ev st fr).flat1 _ = _
  rw [hx, hf]
  rfl
theorem m_one_int {z : V} {x : X} {k0 : IntKind} {n : Int} (hx : x.ev st fr = .int k0 n) (k : ∀ t h', h'.get t = some (.cells [.int k0 n] false) → Keep h h' [] → t.num = h.next.num → h'.next.num = h.next.num + 1 → EnsO (runIts cf l (.sl t 0 1 (.ex 1) :: st) fr h') Q) : EnsO (runIts cf (.op (.bslice 1 1 [z] [(0, 1, x)]) :: l) st fr h) Q :=
  w_one_int hx (k _ _ (get_al_eq _ _) (Keep.refl _ _).alloc rfl (H.next_alloc _ _))
theorem m_one_agg {es : Nat} {z : List V} {x : X} {vs : List V} (hx : x.ev st fr = .agg vs) (he : vs.length = es) (hz : z.length = es) (k : ∀ t h', h'.get t = some (.cells vs false) → Keep h h' [] → t.num = h.next.num → h'.next.num = h.next.num + 1 → EnsO (runIts cf l (.sl t 0 1 (.ex 1) :: st) fr h') Q) : EnsO (runIts cf (.op (.bslice es 1 z [(0, es, x)]) :: l) st fr h) Q :=
  w_one_agg hx he hz (k _ _ (get_al_eq _ _) (Keep.refl _ _).alloc rfl (H.next_alloc _ _))
theorem m_app {bytes : Nat} {s x : X} {b2 : P} {c2 : Cp} {e : List V} (S : Sl es h vs F xs) (hb2 : h.get b2 = some (.cells e false)) (he : e.length = es) (hes : 0 < es) (hsz : (xs.length + 1) * bytes ≤ 140737488355328) (hs : s.ev st fr = vs) (hx : x.ev st fr = .sl b2 0 1 c2)
    (k : ∀ vs' h' m, Sl es h' vs' [m] (xs ++ [e]) → Keep h h' F → m.num = h.next.num → h'.next.num = h.next.num + 1 → EnsO (runIts cf l (vs' :: st) fr h') Q) : EnsO (runIts cf (.op (.appe es bytes s x) :: l) st fr h) Q := by
  refine w_sl_app S hs hx hb2 (e := e) ?_ hes hsz k
  rw [dropN_eq, takeN_eq, List.drop_zero]
  have : Nat.mul 1 es = e.length := by show 1 * es = _; omega
  rw [this, if_pos (Nat.le_refl _), List.take_length]
end

/-- an array of elements of es cells that is read -/
def Ar (es : Nat) (h : H) (v : V) (F : List P) (xs : List (List V)) : Prop :=
  ((v = .nilsl ∨ ∃ s o c, v = .sl s o 0 c) ∧ F = [] ∧ xs = []) ∨ ∃ s o cs c ro, v = .sl s o xs.length c ∧ F = [s] ∧ h.get s = some (.cells cs ro) ∧ o + xs.length * es ≤ cs.length ∧ (cs.drop o).take (xs.length * es) = xs.flatten ∧ (∀ x ∈ xs, x.length = es) ∧ s.num < h.next.num
theorem Ar.keep {es : Nat} {h h' : H} {v : V} {F G : List P} {xs : List (List V)} (s : Ar es h v F xs) (k : Keep h h' G) (hd : ∀ b ∈ F, b ∉ G) : Ar es h' v F xs := by
  rcases s with s | ⟨s, o, cs, c, ro, h1, h2, h3, h4, h5, h6, h7⟩
  · exact .inl s
  · subst h2
    exact .inr ⟨s, o, cs, c, ro, h1, rfl, k.get h3 h7 (hd s (by simp)), h4, h5, h6, by have := k.1; omega⟩
theorem Ar.lt {es : Nat} {h : H} {v : V} {F : List P} {xs : List (List V)} (s : Ar es h v F xs) : ∀ b ∈ F, b.num < h.next.num := by
  rcases s with ⟨_, rfl, _⟩ | ⟨s0, o, cs, c, ro, _, rfl, _, _, _, _, h7⟩
  · intro b hb; cases hb
  · intro b hb
    rw [List.mem_singleton.1 hb]; exact h7
theorem Ar.new {es : Nat} {h : H} {v : V} {F : List P} {xs : List (List V)} {n : P} (s : Ar es h v F xs) (hn : n.num = h.next.num) : n ∉ F := fun e => by have := s.lt n e; omega
section
variable {cf : CallF} {L : Nat} {Q : RE → Fr → H → Prop} {st : St} {fr : Fr} {h : H} {l : List It} {es : Nat} {F : List P} {xs : List (List V)} {vs : V}
theorem w_ar_len {x : X} (S : Ar es h vs F xs) (hx : x.ev st fr = vs) (k : EnsO (runIts cf l (.int .i64 (xs.length : Int) :: st) fr h) Q) : EnsO (runIts cf (.op (.lenL x) :: l) st fr h) Q := by
  rcases S with ⟨rfl | ⟨s, o, c, rfl⟩, rfl, rfl⟩ | ⟨s, o, cs, c, ro, rfl, _⟩
  · exact w_len0 hx k
  · exact w_len hx k
  · exact w_len hx k
theorem w_ar_ix {x i : X} {k0 : IntKind} {a : Int} (S : Ar es h vs F xs) (hx : x.ev st fr = vs) (hi : i.ev st fr = .int k0 a) (h0 : 0 ≤ a) (h1 : a < xs.length)
    (k : ∀ s o cs e ro, h.get s = some (.cells cs ro) → xs[a.toNat]? = some e → takeN es (dropN o cs) = some e → s ∈ F → EnsO (runIts cf l (.ptr s o :: st) fr h) Q) : EnsO (runIts cf (.op (.ixa es x i) :: l) st fr h) Q := by
  rcases S with ⟨_, rfl, rfl⟩ | ⟨s0, o, cs, c, ro, rfl, rfl, h3, h4, h5, h6, h7⟩
  · simp at h1; omega
  · have hlt : a.toNat < xs.length := by omega
    refine w_ixa hx hi h0 h1 (k s0 (o + a.toNat * es) cs xs[a.toNat] ro h3 (by simp [hlt]) ?_ (by simp))
    have hx : xs[a.toNat]? = some xs[a.toNat] := by simp [hlt]
    have hf := flat_at xs a.toNat _ h6 hx
    have hle : (a.toNat + 1) * es ≤ xs.length * es := Nat.mul_le_mul_right _ hlt
    rw [Nat.add_mul] at hle
    rw [dropN_eq, takeN_eq, if_pos (by rw [List.length_drop]; omega), ← List.drop_drop]
    rw [← h5] at hf
    rw [List.drop_take, List.take_take] at hf
    rw [← hf]
    congr 2
    omega
/-- remainders and quotients of what is not negative -/
theorem w_remp {k0 : IntKind} {x y : X} {a b : Int} (hx : x.ev st fr = .int k0 a) (hy : y.ev st fr = .int k0 b) (h0 : 0 ≤ a) (h1 : 0 < b) (k : EnsO (runIts cf l (.int k0 (a % b) :: st) fr h) Q) : EnsO (runIts cf (.op (.ar .rem k0 x y) :: l) st fr h) Q := by
  refine w_rem hx hy (by omega) ?_
  rw [Int.tmod_eq_emod_of_nonneg h0]
  exact k
theorem w_quop {k0 : IntKind} {x y : X} {a b c : Int} (hx : x.ev st fr = .int k0 a) (hy : y.ev st fr = .int k0 b) (h0 : 0 ≤ a) (h1 : 0 < b) (hc : wrapQ k0 (a / b) = c) (k : EnsO (runIts cf l (.int k0 c :: st) fr h) Q) : EnsO (runIts cf (.op (.ar .quo k0 x y) :: l) st fr h) Q := by
  refine w_quo hx hy (by omega) ?_ k
  rw [Int.tdiv_eq_ediv_of_nonneg h0]
  exact hc
end

theorem fresh_nf {b : P} {F : List P} {n : Nat} (hf : ∀ c ∈ F, n ≤ c.num) (hb : b.num < n) : b ∉ F := fun e => by have := hf b e; omega
theorem fresh_dj {F F' : List P} {n : Nat} (hF : ∀ b ∈ F, b.num < n) (hf : ∀ c ∈ F', n ≤ c.num) : ∀ x ∈ F, x ∉ F' := fun x hx e => by have := hF x hx; have := hf x e; omega

theorem V.beq_int (k : IntKind) (n : Int) : (V.int k n).beq (.int k n) = true := by
  show (kEq k k && intEq n n) = true
  rw [kEq_refl, (intEq_iff n n).2 rfl]
  rfl
theorem Cp.beq_refl (c : Cp) : decide (c = c) = true := by simp
theorem Sl.beq {es : Nat} {h : H} {v : V} {F : List P} {xs : List (List V)} (S : Sl es h v F xs) : v.beq v = true := by
  rcases S with ⟨rfl, _⟩ | ⟨s, o, cs, c, rfl, _⟩
  · rfl
  · show (decide (s = s) && Nat.beq o o && Nat.beq xs.length xs.length && decide (c = c)) = true
    simp
section
variable {cf : CallF} {L : Nat} {Q : RE → Fr → H → Prop} {st : St} {fr : Fr} {h : H} {l : List It} {es : Nat} {F : List P} {xs : List (List V)} {vs : V}
theorem w_re_ld {x : X} {i : I} {b : P} {o : Nat} {cs : List V} {ro : Bool} {v v' : V} (hx : x.ev st fr = .ptr b o) (hb : h.get b = some (.cells cs ro)) (hv : nth cs o = some v) (hi : nthI .junk i st = v') (he : v' = v) (hr : v.beq v = true)
    (k : EnsO (runIts cf l st fr h) Q) : EnsO (runIts cf (.re (.ld x) i :: l) st fr h) Q := by
  show EnsO (same (runIts cf l) st fr h (nthI .junk i st) (cLd x st fr h)) Q
  have e : cLd x st fr h = .ok v h := by
    unfold cLd H.cells
    rw [hx]
    show onSome (Option.casesOn (h.get b) none Blk.row) _ = _
    rw [hb]
    show onSome (nth cs o) _ = _
    rw [hv]
    rfl
  rw [e, hi, he]
  show EnsO (cond (v.beq v) (runIts cf l st fr h) .no) Q
  rw [hr]
  exact k
theorem m_name {z : List V} (k : ∀ n h', h'.get n = some (.dead z) → Keep h h' [] → n.num = h.next.num → h'.next.num = h.next.num + 1 → EnsO (runIts cf l (.ptr n 0 :: st) fr h') Q) : EnsO (runIts cf (.name (.alloc z) :: l) st fr h) Q := by
  have e : runIts cf (.name (.alloc z) :: l) st fr h = runIts cf l (.ptr h.next 0 :: st) fr (h.alloc (.dead z)) := by
    show onCs ((h.alloc (.cells z false)).get h.next) _ = _
    rw [H.get_alloc, if_pos rfl]
    rfl
  rw [e]
  exact k _ _ (get_al_eq _ _) (Keep.refl _ _).alloc rfl (H.next_alloc _ _)
theorem m_init {i : I} {n : P} {o : Nat} {z : List V} (hb : h.get n = some (.dead z)) (hi : nthI .junk i st = .ptr n o) (k : ∀ h', h'.get n = some (.cells z false) → Keep h h' [n] → EnsO (runIts cf l st fr h') Q) : EnsO (runIts cf (.init i :: l) st fr h) Q := by
  have e : runIts cf (.init i :: l) st fr h = runIts cf l st fr (h.put n (.cells z false)) := by
    show itInit cf (runIts cf l) i st fr h = _
    unfold itInit
    rw [hi]
    show onDead (h.get n) _ = _
    rw [hb]
    rfl
  rw [e]
  exact k _ (get_put_eq _ _ _) ((Keep.refl _ _).put (by simp))
theorem w_slot {p : P} {i : I} {v : V} (hi : nthI .junk i st = v) (k : EnsO (runIts cf l st (fr.set p v) h) Q) : EnsO (runIts cf (.slot p i :: l) st fr h) Q := by
  show EnsO (runIts cf l st (fr.set p (nthI .junk i st)) h) Q
  rw [hi]
  exact k
theorem w_slot_int {p : P} {i : I} {k0 : IntKind} {n : Int} (hi : nthI .junk i st = .int k0 n) (k : EnsO (runIts cf l st (fr.set p (.int k0 n)) h) Q) : EnsO (runIts cf (.slot p i :: l) st fr h) Q := w_slot hi k
theorem w_slot_bool {p : P} {i : I} {b : Bool} (hi : nthI .junk i st = .bool b) (k : EnsO (runIts cf l st (fr.set p (.bool b)) h) Q) : EnsO (runIts cf (.slot p i :: l) st fr h) Q := w_slot hi k
theorem w_slot_ptr {p : P} {i : I} {b : P} {o : Nat} (hi : nthI .junk i st = .ptr b o) (k : EnsO (runIts cf l st (fr.set p (.ptr b o)) h) Q) : EnsO (runIts cf (.slot p i :: l) st fr h) Q := w_slot hi k
/-- strings that are compared -/
theorem w_seq_str {x y : X} {a b : List Nat} (hx : x.ev st fr = .str a) (hy : y.ev st fr = .str b) (k1 : a = b → EnsO (runIts cf l (.bool true :: st) fr h) Q) (k2 : ¬ a = b → EnsO (runIts cf l (.bool false :: st) fr h) Q) : EnsO (runIts cf (.op (.scmp .eq x y) :: l) st fr h) Q := by
  have e : C.sem (.scmp .eq x y) st fr h = .ok (.bool (beqL Nat.beq a b)) h := by
    show cScmp .eq x y st fr h = _
    unfold cScmp
    rw [hx, hy]
    rfl
  refine w_eq e ?_
  cases hb : beqL Nat.beq a b with
  | true => exact k1 ((beqL_iff Nat.beq natBeq_iff a b).1 hb)
  | false => exact k2 (fun e => by rw [(beqL_iff Nat.beq natBeq_iff a b).2 e] at hb; cases hb)
end

/-! slots by what a frame has for them -/
theorem gse {t : Fr} {p : P} {a : V} : (t.set p a).get p = some a := by rw [T.get_set, if_pos rfl]
theorem gsn {t : Fr} {p q : P} {a : V} {x : Option V} (h : p.beq q = false) (e : t.get q = x) : (t.set p a).get q = x := by
  rw [T.get_set, if_neg (fun he => by rw [(P.beq_iff p q).2 he] at h; cases h)]
  exact e
theorem evs' {p : P} {st : St} {fr : Fr} {v : V} (h : fr.get p = some v) : (X.slot p).ev st fr = v := by
  show (Option.casesOn (motive := fun _ => V) (fr.get p) .junk (fun v => v)) = v
  rw [h]
theorem ens_ret1 {fr : Fr} {h : H} {p : P} {v : V} {Q : V → H → Prop} (e : fr.get p = some v) (q : Q v h) : Ens (retR fr h [.tmp p]) Q := by
  refine ens_eq (v := v) ?_ q
  have : resOf fr h [.tmp p] = some [v] := by
    show (Option.casesOn (motive := fun _ => Option (List V)) (fr.get p) none (fun v => some [v])) = _
    rw [e]
  unfold retR
  rw [this]
  rfl
theorem ens_ret0 {fr : Fr} {h : H} {Q : V → H → Prop} (q : Q (.tup []) h) : Ens (retR fr h []) Q := ens_eq (v := .tup []) rfl q
theorem ens_ret2 {fr : Fr} {h : H} {p p2 : P} {v v2 : V} {Q : V → H → Prop} (e : fr.get p = some v) (e2 : fr.get p2 = some v2) (q : Q (.tup [v, v2]) h) : Ens (retR fr h [.tmp p, .tmp p2]) Q := by
  refine ens_eq (v := .tup [v, v2]) ?_ q
  have : resOf fr h [.tmp p, .tmp p2] = some [v, v2] := by
    show (Option.casesOn (motive := fun _ => Option (List V)) (Option.casesOn (motive := fun _ => Option (List V)) (fr.get p2) none (fun v => some [v])) none (fun vs => Option.casesOn (motive := fun _ => Option (List V)) (fr.get p) none (fun v => some (v :: vs)))) = _
    rw [e2, e]
  unfold retR
  rw [this]
  rfl
theorem ens_retc {fr : Fr} {h : H} {p p2 : P} {n : Nat} {b : P} {o : Nat} {cs vs : List V} {ro : Bool} {v2 : V} {Q : V → H → Prop} (e : fr.get p = some (.ptr b o)) (hb : h.get b = some (.cells cs ro)) (hv : takeN n (dropN o cs) = some vs) (e2 : fr.get p2 = some v2) (q : Q (.tup [.agg vs, v2]) h) : Ens (retR fr h [.celln p n, .tmp p2]) Q := by
  refine ens_eq (v := .tup [.agg vs, v2]) ?_ q
  have hr : h.read b o n = some vs := by
    unfold H.read H.cells
    rw [hb]
    exact hv
  have h1 : res1 fr h (.celln p n) = some (.agg vs) := by
    simp only [res1, e, hr]
  have : resOf fr h [.celln p n, .tmp p2] = some [.agg vs, v2] := by
    show (Option.casesOn (motive := fun _ => Option (List V)) (Option.casesOn (motive := fun _ => Option (List V)) (fr.get p2) none (fun v => some [v])) none (fun vs => Option.casesOn (motive := fun _ => Option (List V)) (res1 fr h (.celln p n)) none (fun v => some (v :: vs)))) = _
    rw [e2, h1]
  unfold retR
  rw [this]
  rfl
section
variable {cf : CallF} {L : Nat} {Q : RE → Fr → H → Prop} {st : St} {fr : Fr} {h : H} {l : List It} {es : Nat} {F : List P} {xs : List (List V)} {vs : V}
theorem w_eqv {neg : Bool} {k0 : EqK} {x y : X} {a b : V} {t t' : Bool} (hx : x.ev st fr = a) (hy : y.ev st fr = b) (he : eqF k0 a b = some t) (ht : cond neg (!t) t = t') (k : EnsO (runIts cf l (.bool t' :: st) fr h) Q) : EnsO (runIts cf (.op (.eqv neg k0 x y) :: l) st fr h) Q := by
  refine w_eq ?_ k
  show onSome (eqF k0 (x.ev st fr) (y.ev st fr)) _ = _
  rw [hx, hy, he]
  show R.ok (.bool (cond neg (!t) t)) h = _
  rw [ht]
theorem w_nck {x : X} {b : P} {o : Nat} (hx : x.ev st fr = .ptr b o) (k : EnsO (runIts cf l (.ptr b o :: st) fr h) Q) : EnsO (runIts cf (.op (.nck x) :: l) st fr h) Q := by
  refine w_eq ?_ k
  show onNck (x.ev st fr) _ _ = _
  rw [hx]
  rfl
theorem w_fa {x : X} {off : Nat} {b : P} {o : Nat} (hx : x.ev st fr = .ptr b o) (k : EnsO (runIts cf l (.ptr b (o + off) :: st) fr h) Q) : EnsO (runIts cf (.op (.fa off x) :: l) st fr h) Q := by
  refine w_eq ?_ k
  show onPtr (x.ev st fr) _ = _
  rw [hx]
  rfl
theorem w_ixarr {es n : Nat} {x i : X} {b : P} {o j : Nat} {k0 : IntKind} (hx : x.ev st fr = .ptr b o) (hi : i.ev st fr = .int k0 (.ofNat j)) (hj : Nat.blt j n = true) (k : EnsO (runIts cf l (.ptr b (o + j * es) :: st) fr h) Q) : EnsO (runIts cf (.op (.ixarr es n x i) :: l) st fr h) Q := by
  refine w_eq ?_ k
  show onPtr (x.ev st fr) _ = _
  rw [hx]
  show onSome (i.ev st fr).nat _ = _
  rw [hi]
  show cond (Nat.blt j n) _ _ = _
  rw [hj]
  rfl
end

theorem Keep.tr0 {h h1 h2 : H} {F : List P} (k : Keep h h1 F) (g : Keep h1 h2 []) : Keep h h2 F := (k.trans g).mono (fun c hc => .inl (by rw [List.append_nil] at hc; exact hc))
theorem Keep.trb {h h1 h2 : H} {F : List P} {b : P} (k : Keep h h1 F) (g : Keep h1 h2 [b]) (hb : b ∈ F) : Keep h h2 F :=
  (k.trans g).mono (fun c hc => .inl ((List.mem_append.1 hc).elim id (fun q => by rw [List.mem_singleton.1 q]; exact hb)))
theorem Keep.trn {h h1 h2 : H} {F : List P} {b : P} (k : Keep h h1 F) (g : Keep h1 h2 [b]) (hb : h.next.num ≤ b.num) : Keep h h2 F :=
  (k.trans g).mono (fun c hc => (List.mem_append.1 hc).elim .inl (fun q => .inr (by rw [List.mem_singleton.1 q]; exact hb)))
theorem Keep.trF {h h1 h2 : H} {F G : List P} (k : Keep h h1 F) (g : Keep h1 h2 G) (hG : ∀ c ∈ G, c ∈ F ∨ h.next.num ≤ c.num) : Keep h h2 F :=
  (k.trans g).mono (fun c hc => (List.mem_append.1 hc).elim .inl (fun q => hG c q))
end Go.Am
namespace Go.Am
open Go.ChangeShapes Go.WideShapes Go.ChangeAt Go.RowKit
def toV : Value → V
  | .int k n => .int k n
  | _ => .junk
theorem chunks {γ : Type} (l : List γ) (es : Nat) : ∀ (n o : Nat), ((List.range n).map fun i => (l.drop (o + i * es)).take es).flatten = (l.drop o).take (n * es)
  | 0, o => by simp
  | n + 1, o => by
    rw [List.range_succ_eq_map, List.map_cons, List.flatten_cons, List.map_map]
    have h1 := chunks l es n (o + es)
    have h2 : ((List.range n).map ((fun i => (l.drop (o + i * es)).take es) ∘ Nat.succ)) = (List.range n).map fun i => (l.drop (o + es + i * es)).take es := by
      apply List.map_congr_left
      intro i _
      show (l.drop (o + (i + 1) * es)).take es = _
      rw [Nat.add_mul, Nat.one_mul, show o + (i * es + es) = o + es + i * es by omega]
    rw [h2, h1, Nat.add_mul, Nat.one_mul, Nat.zero_mul, Nat.add_zero, Nat.add_comm (n * es) es, List.take_add, List.drop_drop]
section
variable {sh : List IntKind} {w : World} {a : Addr} {len cap : Nat} {cur : Array Value} {e : TypeId} {fz : Nat × Nat}
theorem SlIs.cell (s : SlIs sh w a len cap cur e fz) (hpos : 0 < sh.length) {j : Nat} (hj : j < len * sh.length) : ∃ k n, cur.toList[a.off + j]? = some (.int k n) := by
  have hd : j / sh.length < len := by rw [Nat.div_lt_iff_lt_mul hpos]; exact hj
  have hm : j % sh.length < sh.length := Nat.mod_lt _ hpos
  have hi := s.ints (j / sh.length) hd
  have hlt : j % sh.length < ((cur.toList.drop (a.off + j / sh.length * sh.length)).take sh.length).length := by rw [hi.1]; exact hm
  obtain ⟨n, e1, _⟩ := hi.2 (j % sh.length) sh[j % sh.length] ((cur.toList.drop (a.off + j / sh.length * sh.length)).take sh.length)[j % sh.length] (by simp [hm]) (by rw [List.getElem?_eq_getElem hlt])
  have e2 : ((cur.toList.drop (a.off + j / sh.length * sh.length)).take sh.length)[j % sh.length]? = some (.int sh[j % sh.length] n) := by rw [List.getElem?_eq_getElem hlt, e1]
  rw [List.getElem?_take, if_pos hm, List.getElem?_drop] at e2
  refine ⟨sh[j % sh.length], n, ?_⟩
  rw [← e2]
  congr 1
  have := Nat.div_add_mod j sh.length
  rw [Nat.mul_comm] at this
  omega
def Elem (sh : List IntKind) (x : List V) : Prop := ∃ us, Ints sh us ∧ x = us.map toV
theorem arg_sl {α : Type} {enc : TypeId × Value → α} {P : Program} {held : Bool} {t e : TypeId} {sh : List IntKind} {d : Nat} {v : Value} {x : DataW α} {ps : List MemPlace} {r : Reach} {b0 : Nat} (ht : P.underlying t = some (.slice e)) (hs : shapeOf P d e = some sh) (hc : P.cellsOf e = sh.length) (hpos : 0 < sh.length)
    (hval : Value.okWide P w r b0 t v) (hd : DataW.Trod enc P w 0 (fun _ => true) held t v x ps) : ∃ (l : Loc) (ob : Option (List V)) (f : _root_.Go.Am.P → V) (xs : List (List V)),
    (∀ (ι : Io) p, ι p = some l → VR ι (f p) v) ∧ (∀ (ι : Io) cs, ob = some cs → ∃ o, w.heap[l.g]? = some o ∧ BlkR ι l (.cells cs true) o) ∧
    (∀ (h : H) p, (∀ cs, ob = some cs → h.get p = some (.cells cs true)) → p.num < h.next.num → ∃ F, (∀ c ∈ F, c = p) ∧ Ar sh.length h (f p) F xs) ∧ (∀ y ∈ xs, Elem sh y) := by
  rcases open_sl ht hs hc hpos hval hd with rfl | ⟨a, len, cap, rfl, h1, h2, h3⟩
  · exact ⟨⟨0, 0, 0, 0⟩, none, fun _ => .nilsl, [], fun _ _ _ => .nilsl, fun _ _ h => (by cases h), fun h p _ _ => ⟨[], (fun c hc => nomatch hc), .inl ⟨.inl rfl, rfl, rfl⟩⟩, fun y hy => by cases hy⟩
  · rcases h3 with rfl | ⟨cur, e', fz, s⟩
    · obtain rfl : len = 0 := by omega
      exact ⟨⟨0, 0, 0, 0⟩, none, fun p => .sl p 0 0 (.ex 0), [], fun ι p hp => .sl hp (Nat.le_refl _) h2 rfl (.inr rfl), fun _ _ h => (by cases h), fun h p _ _ => ⟨[], (fun c hc => nomatch hc), .inl ⟨.inr ⟨p, 0, _, rfl⟩, rfl, rfl⟩⟩, fun y hy => by cases hy⟩
    · have hfit : a.off + len * sh.length ≤ cur.toList.length := by simpa using s.fits
      refine ⟨⟨a.block, a.off, cur.size, e'⟩, some (((cur.toList.drop a.off).take (len * sh.length)).map toV), fun p => .sl p 0 len (.ex cap), (List.range len).map fun i => ((cur.toList.drop (a.off + i * sh.length)).take sh.length).map toV, ?_, ?_, ?_, ?_⟩
      · intro ι p hp
        refine .sl hp h1 h2 rfl (.inl ?_)
        have hsp := s.spot
        show a = ⟨a.block, a.off + 0, none⟩
        rw [← hsp]
        rfl
      · intro ι cs hcs
        obtain rfl := Option.some.inj hcs
        refine ⟨_, s.obj, .cells rfl ?_ (fun h => by cases h) fun j v hj => ?_⟩
        · show a.off + _ ≤ cur.size
          rw [List.length_map, List.length_take, List.length_drop]
          have := s.fits
          omega
        · have hlt : j < len * sh.length := by
            have := (List.getElem?_eq_some_iff.1 hj).1
            rw [List.length_map, List.length_take] at this
            omega
          obtain ⟨k, n, e1⟩ := s.cell hpos hlt
          rw [List.getElem?_map, List.getElem?_take, if_pos hlt, List.getElem?_drop, e1] at hj
          obtain rfl := Option.some.inj hj
          exact ⟨.int k n, by simpa using e1, .int k n, rfl⟩
      · intro h p hg hp
        have hlen : (((cur.toList.drop a.off).take (len * sh.length)).map toV).length = len * sh.length := by
          rw [List.length_map, List.length_take, List.length_drop]; omega
        have hxl : ((List.range len).map fun i => ((cur.toList.drop (a.off + i * sh.length)).take sh.length).map toV).length = len := by simp
        refine ⟨[p], fun c hc => List.mem_singleton.1 hc, .inr ⟨p, 0, _, .ex cap, true, ?_, rfl, hg _ rfl, ?_, ?_, ?_, hp⟩⟩
        · rw [hxl]
        · rw [hxl, hlen]; omega
        · rw [hxl, List.drop_zero, List.take_of_length_le (by rw [hlen]; exact Nat.le_refl _)]
          have := chunks (cur.toList.map toV) sh.length len a.off
          simp only [← List.map_drop, ← List.map_take] at this
          rw [← this]
        · intro y hy
          obtain ⟨i, hi, rfl⟩ := List.mem_map.1 hy
          rw [List.length_map]
          exact (s.ints i (List.mem_range.1 hi)).1
      · intro y hy
        obtain ⟨i, hi, rfl⟩ := List.mem_map.1 hy
        exact ⟨_, s.ints i (List.mem_range.1 hi), rfl⟩
theorem Elem.cons {k : IntKind} {sh : List IntKind} {x : List V} (h : Elem (k :: sh) x) : ∃ n y, x = .int k n :: y ∧ (Lit.int k n).wf = true ∧ Elem sh y := by
  obtain ⟨us, hu, rfl⟩ := h
  cases us with
  | nil => have := hu.1; simp at this
  | cons u us =>
    obtain ⟨n, rfl, hw⟩ := hu.2 0 k u rfl rfl
    refine ⟨n, us.map toV, rfl, hw, us, ⟨by have := hu.1; simpa using this, fun i k' v h1 h2 => hu.2 (i + 1) k' v (by simpa using h1) (by simpa using h2)⟩, rfl⟩
theorem Elem.nil {x : List V} (h : Elem [] x) : x = [] := by
  obtain ⟨us, hu, rfl⟩ := h
  cases us with
  | nil => rfl
  | cons => have := hu.1; simp at this
theorem wf_u8 {n : Int} (h : (Lit.int .u8 n).wf = true) : 0 ≤ n ∧ n < 256 := by simp [Lit.wf, IntKind.min, IntKind.max, IntKind.bits, IntKind.signed] at h; omega
theorem wf_u16 {n : Int} (h : (Lit.int .u16 n).wf = true) : 0 ≤ n ∧ n < 65536 := by simp [Lit.wf, IntKind.min, IntKind.max, IntKind.bits, IntKind.signed] at h; omega
theorem wf_u32 {n : Int} (h : (Lit.int .u32 n).wf = true) : 0 ≤ n ∧ n < 4294967296 := by simp [Lit.wf, IntKind.min, IntKind.max, IntKind.bits, IntKind.signed] at h; omega
theorem wf_i64 {n : Int} (h : (Lit.int .i64 n).wf = true) : -9223372036854775808 ≤ n ∧ n < 9223372036854775808 := by simp [Lit.wf, IntKind.min, IntKind.max, IntKind.bits, IntKind.signed] at h; omega
end
end Go.Am
