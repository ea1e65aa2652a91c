/- The machine's operations, first part. -/
import Derived.Test.YtanlbgabfehaoaaGreatDoorAmA
namespace Go.Am

inductive R.Leaf : R → V → H → Prop where
  | ok (v : V) (h : H) : R.Leaf (.ok v h) v h
  | ask {n : Nat} {k : Nat → R} {v : V} {h : H} (i : Nat) : i < n → R.Leaf (k i) v h → R.Leaf (.ask n k) v h
def R.safe : R → Prop
  | .no => False
  | .ok _ _ => True
  | .ask n k => 0 < n ∧ ∀ i, i < n → (k i).safe

/-! ### the combinators -/
theorem onSome_safe {α : Type} {o : Option α} {f : α → R} (h : (onSome o f).safe) : ∃ a, o = some a ∧ onSome o f = f a := by
  cases o with
  | none => exact h.elim
  | some a => exact ⟨a, rfl, rfl⟩
theorem cond_safe {c : Bool} {r : R} (h : (cond c r .no).safe) : c = true ∧ cond c r .no = r := by
  cases c with
  | false => exact h.elim
  | true => exact ⟨rfl, rfl⟩
theorem onInt_safe {v : V} {f : IntKind → Int → R} (h : (onInt v f).safe) : ∃ k n, v = .int k n ∧ onInt v f = f k n := by
  cases v <;> first | exact h.elim | exact ⟨_, _, rfl, rfl⟩
theorem onBool_safe {v : V} {f : Bool → R} (h : (onBool v f).safe) : ∃ b, v = .bool b ∧ onBool v f = f b := by
  cases v <;> first | exact h.elim | exact ⟨_, rfl, rfl⟩
theorem onStr_safe {v : V} {f : List Nat → R} (h : (onStr v f).safe) : ∃ s, v = .str s ∧ onStr v f = f s := by
  cases v <;> first | exact h.elim | exact ⟨_, rfl, rfl⟩
theorem onPtr_safe {v : V} {f : P → Nat → R} (h : (onPtr v f).safe) : ∃ b o, v = .ptr b o ∧ onPtr v f = f b o := by
  cases v <;> first | exact h.elim | exact ⟨_, _, rfl, rfl⟩
theorem onAgg_safe {v : V} {f : List V → R} (h : (onAgg v f).safe) : ∃ cs, v = .agg cs ∧ onAgg v f = f cs := by
  cases v <;> first | exact h.elim | exact ⟨_, rfl, rfl⟩
theorem onTup_safe {v : V} {f : List V → R} (h : (onTup v f).safe) : ∃ cs, v = .tup cs ∧ onTup v f = f cs := by
  cases v <;> first | exact h.elim | exact ⟨_, rfl, rfl⟩
theorem onMap_safe {v : V} {f : P → R} (h : (onMap v f).safe) : ∃ b, v = .map b ∧ onMap v f = f b := by
  cases v <;> first | exact h.elim | exact ⟨_, rfl, rfl⟩
theorem onSl_safe {v : V} {g : R} {f : P → Nat → Nat → Cp → R} (h : (onSl v g f).safe) : (v = .nilsl ∧ onSl v g f = g) ∨ ∃ b o n c, v = .sl b o n c ∧ onSl v g f = f b o n c := by
  cases v <;> first | exact h.elim | exact .inl ⟨rfl, rfl⟩ | exact .inr ⟨_, _, _, _, rfl, rfl⟩
theorem onMapN_safe {v : V} {g : R} {f : P → R} (h : (onMapN v g f).safe) : (v = .nilmap ∧ onMapN v g f = g) ∨ ∃ b, v = .map b ∧ onMapN v g f = f b := by
  cases v <;> first | exact h.elim | exact .inl ⟨rfl, rfl⟩ | exact .inr ⟨_, rfl, rfl⟩
theorem onNck_safe {v : V} {f : P → Nat → R} {g : P → List V → List V → R} (h : (onNck v f g).safe) : (∃ b o, v = .ptr b o ∧ onNck v f g = f b o) ∨ ∃ p a c, v = .fn p a c ∧ onNck v f g = g p a c := by
  cases v <;> first | exact h.elim | exact .inl ⟨_, _, rfl, rfl⟩ | exact .inr ⟨_, _, _, rfl, rfl⟩
theorem onIf_safe {v : V} {g : R} {f : TypeId → V → R} (h : (onIf v g f).safe) : (v = .niliface ∧ onIf v g f = g) ∨ ∃ t u, v = .iface t u ∧ onIf v g f = f t u := by
  cases v <;> first | exact h.elim | exact .inl ⟨rfl, rfl⟩ | exact .inr ⟨_, _, rfl, rfl⟩
theorem onRng_safe {v : V} {f : List Nat → R} {g : R} {k : P → R} (h : (onRng v f g k).safe) : (∃ s, v = .str s ∧ onRng v f g k = f s) ∨ (v = .nilmap ∧ onRng v f g k = g) ∨ ∃ b, v = .map b ∧ onRng v f g k = k b := by
  cases v <;> first | exact h.elim | exact .inl ⟨_, rfl, rfl⟩ | exact .inr (.inl ⟨rfl, rfl⟩) | exact .inr (.inr ⟨_, rfl, rfl⟩)
theorem onLen_safe {v : V} {f : List Nat → R} {g : R} {k : P → Nat → Nat → Cp → R} {l : R} {m : P → R} (h : (onLen v f g k l m).safe) :
    (∃ s, v = .str s ∧ onLen v f g k l m = f s) ∨ (v = .nilsl ∧ onLen v f g k l m = g) ∨ (∃ b o n c, v = .sl b o n c ∧ onLen v f g k l m = k b o n c) ∨ (v = .nilmap ∧ onLen v f g k l m = l) ∨ ∃ b, v = .map b ∧ onLen v f g k l m = m b := by
  cases v <;> first | exact h.elim | exact .inl ⟨_, rfl, rfl⟩ | exact .inr (.inl ⟨rfl, rfl⟩) | exact .inr (.inr (.inl ⟨_, _, _, _, rfl, rfl⟩)) | exact .inr (.inr (.inr (.inl ⟨rfl, rfl⟩))) | exact .inr (.inr (.inr (.inr ⟨_, rfl, rfl⟩)))
theorem onNew_safe {v : V} {f : List Nat → R} {g : R} {k : P → Nat → Nat → Cp → R} (h : (onNew v f g k).safe) :
    (∃ s, v = .str s ∧ onNew v f g k = f s) ∨ (v = .nilsl ∧ onNew v f g k = g) ∨ ∃ b o n c, v = .sl b o n c ∧ onNew v f g k = k b o n c := by
  cases v <;> first | exact h.elim | exact .inl ⟨_, rfl, rfl⟩ | exact .inr (.inl ⟨rfl, rfl⟩) | exact .inr (.inr ⟨_, _, _, _, rfl, rfl⟩)
theorem onFn_safe {v : V} {f : P → List V → List V → R} (h : (onFn v f).safe) : ∃ p a c, v = .fn p a c ∧ onFn v f = f p a c := by
  cases v <;> first | exact h.elim | exact ⟨_, _, _, rfl, rfl⟩
theorem onMapB_safe {o : Option Blk} {f : List (V × V × Nat) → Nat → R} (h : (onMapB o f).safe) : ∃ es clock, o = some (.map es clock) ∧ onMapB o f = f es clock := by
  obtain ⟨b, rfl, e⟩ := onSome_safe h
  unfold onMapB at h ⊢
  rw [e] at h ⊢
  cases b <;> first | exact h.elim | exact ⟨_, _, rfl, rfl⟩
theorem onRow_safe {o : Option Blk} {f : List V → Bool → R} (h : (onRow o f).safe) : ∃ cs ro, o = some (.cells cs ro) ∧ onRow o f = f cs ro := by
  obtain ⟨b, rfl, e⟩ := onSome_safe h
  unfold onRow at h ⊢
  rw [e] at h ⊢
  cases b <;> first | exact h.elim | exact ⟨_, _, rfl, rfl⟩

/-! ### numbers -/
theorem kEq_iff (a b : IntKind) : kEq a b = true ↔ a = b := by cases a <;> cases b <;> simp [kEq]
theorem intEq_iff (a b : Int) : intEq a b = true ↔ a = b := by
  cases a <;> cases b <;> simp [intEq, natBeq_iff] <;> omega
theorem intEq_dec (a b : Int) : intEq a b = (a == b) := by
  rw [Bool.eq_iff_iff, intEq_iff]; simp
theorem intLe_iff (a b : Int) : intLe a b = true ↔ a ≤ b := by
  cases a with
  | ofNat a => cases b with
    | ofNat b => simp [intLe]
    | negSucc b => simp [intLe]; omega
  | negSucc a => cases b with
    | ofNat b => simp [intLe]; omega
    | negSucc b => simp only [intLe, natBle_iff, Int.negSucc_eq]; omega
theorem intLe_dec (a b : Int) : intLe a b = decide (a ≤ b) := by
  rw [Bool.eq_iff_iff, intLe_iff]; simp
theorem pow2_eq (k : IntKind) : (pow2 k : Int) = 2 ^ k.bits := by cases k <;> rfl
theorem inKind_wrap (k : IntKind) (n : Int) (h : inKind k n = true) : k.wrap n = n := by
  cases k <;> cases n <;> simp only [inKind, natBlt_iff, Bool.false_eq_true] at h <;> (simp only [IntKind.wrap, IntKind.bits, IntKind.signed]; (try simp only [Int.ofNat_eq_natCast]); (try simp only [Int.negSucc_eq]); simp; omega)
theorem wrap_aux (p q m : Nat) : (if decide ((m : Int) ≥ (q : Int)) = true then (m : Int) - (p : Int) else (m : Int)) = cond (Nat.ble q m) (Int.subNatNat m p) (Int.ofNat m) := by
  by_cases h : q ≤ m
  · rw [if_pos (by simp; omega), show Nat.ble q m = true from by rw [Nat.ble_eq]; exact h, cond_true, Int.subNatNat_eq_coe]
  · rw [if_neg (by simp; omega), show Nat.ble q m = false from by rw [Bool.eq_false_iff]; intro h'; rw [Nat.ble_eq] at h'; exact h h', cond_false]; rfl
theorem wrapS_eq (k : IntKind) (n : Int) : wrapS k n = k.wrap n := by
  have hm : n.emod (Int.ofNat (pow2 k)) = n % (2 ^ k.bits : Int) := by rw [← pow2_eq]; rfl
  have h0 : 0 ≤ n % (2 ^ k.bits : Int) := Int.emod_nonneg _ (by cases k <;> simp [IntKind.bits])
  obtain ⟨m, hm'⟩ := Int.eq_ofNat_of_zero_le h0
  unfold wrapS IntKind.wrap
  simp only [hm, hm', Int.toNat_natCast]
  cases k <;> simp only [IntKind.signed, Bool.true_and, Bool.false_and, cond_false, Bool.false_eq_true, if_false, pow2, half2] <;> first | rfl | exact (wrap_aux _ _ m).symm
theorem wrapQ_eq (k : IntKind) (n : Int) : wrapQ k n = k.wrap n := by
  unfold wrapQ
  cases h : inKind k n with
  | true => rw [cond_true, inKind_wrap k n h]
  | false => rw [cond_false, wrapS_eq]
end Go.Am
namespace Go.Am

/-! ### types as the checks see them -/
structure TyInfo where
  u : TypeDesc
  size : Nat
  bytes : Nat
  zero : Option Value
def TyOk (P : Program) (ty : Nat → Option TyInfo) : Prop := ∀ t x, ty t = some x → P.underlying t = some x.u ∧ ∃ i, P.info? t = some i ∧ i.size = x.size ∧ i.bytes = x.bytes ∧ i.zero = x.zero

def aggD : TypeDesc → Bool
  | .struct _ | .array _ _ => true
  | _ => false
def ifaceD : TypeDesc → Bool
  | .interface _ => true
  | _ => false

/-! ### constants -/
def con1 : Value → V → Bool
  | .int k n, .int k' n' => kEq k k' && intEq n n'
  | .bool a, .bool b => Bool.casesOn a (!b) b
  | .string s, .str l => decide (s.data.toList.map (·.toNat) = l)
  | .pointer none, .nil => true
  | .slice none 0 0, .nilsl => true
  | .map none, .nilmap => true
  | .nilFunc, .nilfn => true
  | .nilIface, .niliface => true
  | _, _ => false
theorem con1_ok (ι : Io) {v : Value} {c : V} (h : con1 v c = true) : VR ι c v ∧ v.oneCell' = true := by
  unfold con1 at h
  split at h
  · simp only [Bool.and_eq_true, kEq_iff, intEq_iff] at h; obtain ⟨rfl, rfl⟩ := h; exact ⟨.int _ _, rfl⟩
  · rename_i a b; cases a <;> cases b <;> first | exact ⟨.bool _, rfl⟩ | (simp at h)
  · have := of_decide_eq_true h; subst this; exact ⟨.str _, rfl⟩
  · exact ⟨.nil, rfl⟩
  · exact ⟨.nilsl, rfl⟩
  · exact ⟨.nilmap, rfl⟩
  · exact ⟨.nilfn, rfl⟩
  · exact ⟨.niliface, rfl⟩
  · cases h
def con1s : List Value → List V → Bool
  | [], [] => true
  | v :: vs, c :: cs => con1 v c && con1s vs cs
  | _, _ => false
theorem con1s_ok (ι : Io) : ∀ {vs : List Value} {cs : List V}, con1s vs cs = true → CRs ι cs vs
  | [], [], _ => ⟨VRs.nil ι, by simp⟩
  | v :: vs, c :: cs, h => by
    simp only [con1s, Bool.and_eq_true] at h
    obtain ⟨h1, h2⟩ := con1_ok ι h.1
    obtain ⟨h3, h4⟩ := con1s_ok ι (vs := vs) (cs := cs) h.2
    exact ⟨VRs.cons h1 h3, by simpa [h2] using h4⟩
def conOk : Value → V → Bool
  | _, .junk => true
  | .agg vs, .agg cs => con1s vs.toList cs
  | .tuple vs, .tup cs => con1s vs.toList cs
  | .iface t v, .iface t' c => Nat.beq t t' && con1 v c
  | v, c => con1 v c
theorem conOk_ok (ι : Io) {v : Value} {c : V} (h : conOk v c = true) : VR ι c v := by
  unfold conOk at h
  split at h
  · exact .junk _
  · exact VR.of_agg (con1s_ok ι h)
  · have := (con1s_ok ι h).1
    exact .tup (by simpa using this.1) (fun i v v' a b => this.2 i v v' a (by simpa using b))
  · simp only [Bool.and_eq_true, natBeq_iff] at h
    obtain ⟨rfl, h2⟩ := h
    exact .iface (con1_ok ι h2).1
  · exact (con1_ok ι h).1

/-! ### the local stack and the frame -/
/-- the names of what lies on the stack (newest first); the slots that were written since they were kept -/
structure Nm where
  ng : Nat
  nt : Nat
  kept : List Nat
  names : List (Option Nat)
  dirty : List Nat

def firstIdx (names : List (Option Nat)) (t : Nat) : Option Nat :=
  match names with
  | [] => none
  | n :: r => if n = some t then some 0 else (firstIdx r t).map (· + 1)
theorem firstIdx_some {t : Nat} : ∀ {names : List (Option Nat)} {i : Nat}, firstIdx names t = some i → names[i]? = some (some t) ∧ ∀ j, j < i → names[j]? ≠ some (some t)
  | [], i, h => by cases h
  | n :: r, i, h => by
    unfold firstIdx at h
    split at h
    · rename_i hn
      obtain rfl := Option.some.inj h
      exact ⟨by simp [hn], fun j hj => by omega⟩
    · rename_i hn
      cases hr : firstIdx r t with
      | none => rw [hr] at h; cases h
      | some k =>
        rw [hr] at h
        obtain rfl := Option.some.inj h
        obtain ⟨h1, h2⟩ := firstIdx_some hr
        refine ⟨by simpa using h1, fun j hj => ?_⟩
        cases j with
        | zero => simpa using hn
        | succ j => have hj' : j + 1 < k + 1 := hj; simpa using h2 j (by omega)

structure ER (n : Nm) (ι : Io) (st : St) (fr : Fr) (a : Act) : Prop where
  len : st.length = n.names.length
  st : ∀ (i : Nat) (v : V) (t : Nat), st[i]? = some v → n.names[i]? = some (some t) → (∀ j, j < i → n.names[j]? ≠ some (some t)) → VR ι v (a.tmps.getD t undef)
  fr : ∀ (p : P) (v : V), fr.get p = some v → p.num ∈ n.kept ∧ (p.num ∉ n.dirty → VR ι v (a.tmps.getD p.num undef))
  glob : ∀ p : P, p.num < n.ng → ∃ l, ι p = some l ∧ l.g = p.num ∧ l.d = 0
  size : a.tmps.size = n.nt

theorem ER.mono {n : Nm} {ι κ : Io} {st : St} {fr : Fr} {a : Act} (h : ER n ι st fr a) (k : ι.le κ) : ER n κ st fr a :=
  ⟨h.len, fun i v t h1 h2 h3 => (h.st i v t h1 h2 h3).mono k, fun p v hp => ⟨(h.fr p v hp).1, fun hd => ((h.fr p v hp).2 hd).mono k⟩, fun p hp => let ⟨l, e, r⟩ := h.glob p hp; ⟨l, k _ _ e, r⟩, h.size⟩

def okX (n : Nm) : Operand → X → Bool
  | .tmp t, .loc i => decide (firstIdx n.names t = some i.num)
  | .tmp t, .slot p => Nat.beq p.num t && !(n.dirty.contains t)
  | .const v, .con c => conOk v c
  | .global g, .con (.ptr p 0) => Nat.beq p.num g && Nat.blt g n.ng
  | .func f, .con (.fn p [] []) => Nat.beq p.num f
  | _, _ => false
theorem okX_ok {n : Nm} {ι : Io} {st : St} {fr : Fr} {a : Act} (e : ER n ι st fr a) {o : Operand} {x : X} (h : okX n o x = true) : VR ι (x.ev st fr) (a.eval o) := by
  unfold okX at h
  split at h
  · rename_i t i
    have h := of_decide_eq_true h
    obtain ⟨h1, h2⟩ := firstIdx_some h
    show VR ι (nthI .junk i st) (a.tmps.getD t undef)
    rw [nthI_eq]
    cases hs : st[i.num]? with
    | none => rw [List.getD_eq_getElem?_getD, hs]; exact .junk _
    | some v => rw [List.getD_eq_getElem?_getD, hs]; exact e.st _ _ _ hs h1 h2
  · rename_i t p
    simp only [Bool.and_eq_true, natBeq_iff, Bool.not_eq_true', List.contains_eq_mem, decide_eq_false_iff_not] at h
    obtain ⟨rfl, hd⟩ := h
    show VR ι (Option.casesOn (motive := fun _ => V) (fr.get p) .junk (fun v => v)) (a.tmps.getD p.num undef)
    cases hf : fr.get p with
    | none => exact .junk _
    | some v => exact (e.fr p v hf).2 hd
  · exact conOk_ok ι h
  · rename_i g p
    simp only [Bool.and_eq_true, natBeq_iff, natBlt_iff] at h
    obtain ⟨rfl, hg⟩ := h
    obtain ⟨l, e1, e2, e3⟩ := e.glob p hg
    have := VR.ptr (o := 0) e1
    rw [e2, e3] at this
    exact this
  · rename_i f p
    simp only [natBeq_iff] at h
    subst h
    exact .fn rfl rfl (fun i v v' a => by simp at a) (fun i v v' a => by simp at a)
  · cases h
def okXs (n : Nm) : List Operand → List X → Bool
  | [], [] => true
  | o :: os, x :: xs => okX n o x && okXs n os xs
  | _, _ => false
theorem okXs_ok {n : Nm} {ι : Io} {st : St} {fr : Fr} {a : Act} (e : ER n ι st fr a) : ∀ {os : List Operand} {xs : List X}, okXs n os xs = true → VRs ι (evs xs st fr) (os.map a.eval)
  | [], [], _ => VRs.nil ι
  | o :: os, x :: xs, h => by
    simp only [okXs, Bool.and_eq_true] at h
    exact VRs.cons (okX_ok e h.1) (okXs_ok e h.2)
def okO (n : Nm) : Option Operand → Option X → Bool
  | none, none => true
  | some o, some x => okX n o x
  | _, _ => false

/-! ### what an operation has to do -/
def OpOK (P : Program) (a : Act) (o : Oper) (w : World) (ι : Io) (h : H) (r : R) : Prop :=
  ∃ v h', R.Leaf r v h' ∧ ∃ ι' v' w', ((execOp a.eval o).run P w = .ok (.value v') w' ∨ ((execOp a.eval o).run P w = .ok .skip w' ∧ v' = undef)) ∧ VR ι' v v' ∧ Step ι h w ι' h' w'

theorem OpOK.value {P : Program} {a : Act} {o : Oper} {w w' : World} {ι ι' : Io} {h h' : H} {v : V} {v' : Value} (e : (execOp a.eval o).run P w = .ok (.value v') w') (r : VR ι' v v') (s : Step ι h w ι' h' w') : OpOK P a o w ι h (.ok v h') :=
  ⟨v, h', .ok v h', ι', v', w', .inl e, r, s⟩
theorem OpOK.skip {P : Program} {a : Act} {o : Oper} {w w' : World} {ι ι' : Io} {h h' : H} (e : (execOp a.eval o).run P w = .ok .skip w') (s : Step ι h w ι' h' w') : OpOK P a o w ι h (.ok (.tup []) h') :=
  ⟨.tup [], h', .ok _ h', ι', undef, w', .inr ⟨e, rfl⟩, .tup rfl (fun i v v' a => by simp at a), s⟩
/-- an operation that only computes -/
theorem OpOK.pure {P : Program} {a : Act} {o : Oper} {w : World} {ι : Io} {h : H} {v : V} {v' : Value} (hr : Rel ι h w) (e : (execOp a.eval o).run P w = .ok (.value v') w) (r : VR ι v v') : OpOK P a o w ι h (.ok v h) :=
  OpOK.value e r (Step.refl hr)

section
variable {P : Program} {a : Act} {o : Oper} {w : World} {ι : Io} {h : H} {st : St} {fr : Fr}

theorem ok_mv {x : X} {y : Operand} (hr : Rel ι h w) (ho : o.op = .move y ∨ o.op = .assign y) (hx : VR ι (x.ev st fr) (a.eval y)) : OpOK P a o w ι h (cMv x st fr h) := by
  refine OpOK.pure hr ?_ hx
  rcases ho with ho | ho <;> simp [execOp, ho]
theorem ok_pick {c x y : X} {c' x' y' : Operand} (hr : Rel ι h w) (ho : o.op = .pick c' x' y') (hc : VR ι (c.ev st fr) (a.eval c')) (hx : VR ι (x.ev st fr) (a.eval x')) (hy : VR ι (y.ev st fr) (a.eval y'))
    (hs : (cPick c x y st fr h).safe) : OpOK P a o w ι h (cPick c x y st fr h) := by
  unfold cPick at hs ⊢
  obtain ⟨b, hb, e⟩ := onBool_safe hs
  rw [e]
  rw [hb] at hc
  cases hcv : a.eval c' with
  | bool b' =>
    rw [hcv] at hc
    cases hc
    cases b with
    | true => exact OpOK.pure hr (by simp [execOp, ho, hcv, asBool]) hx
    | false => exact OpOK.pure hr (by simp [execOp, ho, hcv, asBool]) hy
  | _ => rw [hcv] at hc; cases hc
end
end Go.Am
namespace Go.Am
section
variable {Pg : Program} {a : Act} {o : Oper} {w : World} {ι : Io} {h : H} {st : St} {fr : Fr}

/-- a new row of cells -/
theorem Step.row {ι : Io} {h : H} {w : World} (hr : Rel ι h w) {cs : List V} {cs' : Array Value} {e : TypeId} (hc : CRs ι cs cs'.toList) (w' : World) (hw : w'.heap = w.heap.push (.cells cs' e)) (e1 : w'.os = w.os) (e2 : w'.tape = w.tape) (e3 : w'.output = w.output) :
    Step ι h w (ι.add h.next ⟨w.heap.size, 0, cs'.size, e⟩) (h.alloc (.cells cs false)) w' := by
  have hlen := hc.1.1
  simp at hlen
  refine Step.alloc hr rfl rfl (.cells rfl (by simp; omega) (fun _ j _ => by simp) ?_) hw e1 e2 e3
  intro j v hj
  obtain ⟨v', h1, h2⟩ := hc.1.get hj
  exact ⟨v', by simpa using h1, h2.mono (Io.le_add hr _), hc.2 v' (List.mem_of_getElem? h1)⟩
theorem VR.new {ι : Io} {b : P} {l : Loc} (hd : l.d = 0) : VR (ι.add b l) (.ptr b 0) (.pointer (some ⟨l.g, 0, none⟩)) := by
  have := VR.ptr (ι := ι.add b l) (o := 0) (Io.add_same ι b l)
  rw [hd] at this
  exact this

def zeroOk : Option Value → List V → Bool
  | some z, cs => con1s z.cells.toList cs
  | none, _ => false
theorem zeroOk_ok (ι : Io) {z : Option Value} {cs : List V} (hz : zeroOk z cs = true) : ∃ v, z = some v ∧ CRs ι cs v.cells.toList := by
  cases z with
  | none => cases hz
  | some v => exact ⟨v, rfl, con1s_ok ι hz⟩

theorem ok_alloc {z : List V} {t : TypeId} {i : TypeInfo} (hr : Rel ι h w) (ho : o.op = .alloc t) (hi : Pg.info? t = some i) (hz : zeroOk i.zero z = true) : OpOK Pg a o w ι h (cAlloc z st fr h) := by
  obtain ⟨v, hv, hc⟩ := zeroOk_ok ι hz
  have hs := Step.row (w := w) hr hc (w.alloc (.cells v.cells t)) rfl rfl rfl rfl
  refine OpOK.value (v' := .pointer (some ⟨w.heap.size, 0, none⟩)) ?_ (VR.new rfl) hs
  simp [execOp, ho, Instr.alloc, zeroValue, typeInfo, hi, hv, newVar, newRow]
theorem ok_box {x : X} {y : Operand} {t : TypeId} (hr : Rel ι h w) (ho : o.op = .box t y) (hx : VR ι (x.ev st fr) (a.eval y)) (hs : (cBox x st fr h).safe) : OpOK Pg a o w ι h (cBox x st fr h) := by
  unfold cBox at hs ⊢
  obtain ⟨cs, hf, e⟩ := onSome_safe hs
  rw [e]
  have hst := Step.row (w := w) hr (hx.flat1 hf) (w.alloc (.cells (a.eval y).cells t)) rfl rfl rfl rfl
  refine OpOK.value (v' := .pointer (some ⟨w.heap.size, 0, none⟩)) ?_ (VR.new rfl) hst
  simp [execOp, ho, Instr.box, newVar, newRow]

/-- an address that the machine has -/
theorem VR.ptr_inv {b : P} {o : Nat} {v' : Value} (h : VR ι (.ptr b o) v') : ∃ l, ι b = some l ∧ v' = .pointer (some ⟨l.g, l.d + o, none⟩) := by
  cases h with | ptr e => exact ⟨_, e, rfl⟩

theorem ok_ld {x : X} {y : Operand} {t : TypeId} {d : TypeDesc} (hr : Rel ι h w) (ho : o.op = .load t y) (ht : Pg.underlying t = some d) (ha : aggD d = false)
    (hx : VR ι (x.ev st fr) (a.eval y)) (hs : (cLd x st fr h).safe) : OpOK Pg a o w ι h (cLd x st fr h) := by
  unfold cLd at hs ⊢
  obtain ⟨b, off, hv, e⟩ := onPtr_safe hs
  rw [e] at hs ⊢
  obtain ⟨cs, hcs, e⟩ := onSome_safe hs
  rw [e] at hs ⊢
  obtain ⟨v, hn, e⟩ := onSome_safe hs
  rw [e]
  rw [hv] at hx
  obtain ⟨l, hl, hy⟩ := hx.ptr_inv
  obtain ⟨ro, hb⟩ := H.cells_some hcs
  obtain ⟨l', cur, fz, hl', hg, _, _, _, hval⟩ := hr.row hb
  rw [hl] at hl'
  obtain rfl := Option.some.inj hl'
  rw [nth_eq] at hn
  obtain ⟨v', h1, h2, _⟩ := hval off v hn
  refine OpOK.pure hr (v' := v') ?_ h2
  have hagg : (isAgg t).run Pg w = .ok false w := by
    simp only [isAgg, Sem.run_bind, run_underlying ht, Result.andThen_ok]
    cases d <;> simp [aggD] at ha ⊢
  have hc : w.cell? ⟨l.g, l.d + off, none⟩ = some v' := by rw [cell_at hg]; exact h1
  simp [execOp, ho, Instr.loadAt, hy, Instr.sureAddr, loadVar, hagg, hc]
theorem ok_ldn {x : X} {y : Operand} {t n : Nat} {d : TypeDesc} {i : TypeInfo} (hr : Rel ι h w) (ho : o.op = .load t y) (ht : Pg.underlying t = some d) (ha : aggD d = true)
    (hi : Pg.info? t = some i) (hn : i.size = n) (hx : VR ι (x.ev st fr) (a.eval y)) (hs : (cLdn n x st fr h).safe) : OpOK Pg a o w ι h (cLdn n x st fr h) := by
  unfold cLdn at hs ⊢
  obtain ⟨b, off, hv, e⟩ := onPtr_safe hs
  rw [e] at hs ⊢
  obtain ⟨vs, hvs, e⟩ := onSome_safe hs
  rw [e]
  rw [hv] at hx
  obtain ⟨l, hl, hy⟩ := hx.ptr_inv
  obtain ⟨vs', hc, hlen, hcell⟩ := hr.read hvs hl
  refine OpOK.pure hr (v' := .agg vs'.toArray) ?_ (VR.of_agg (by simpa using hc))
  have hagg : (isAgg t).run Pg w = .ok true w := by
    simp only [isAgg, Sem.run_bind, run_underlying ht, Result.andThen_ok]
    cases d <;> simp [aggD] at ha ⊢
  have hl2 : (loadCells ⟨l.g, l.d + off, none⟩ n).run Pg w = .ok vs'.toArray w := by
    have := run_loadCells_list (P := Pg) w ⟨l.g, l.d + off, none⟩ vs' (fun j v hj => by rw [Addr.add_lit]; exact hcell j v hj)
    rw [hlen] at this
    exact this
  simp [execOp, ho, Instr.loadAt, hy, Instr.sureAddr, loadVar, hagg, sizeOf, typeInfo, hi, hn, hl2]

theorem ok_st {x y : X} {x' y' : Operand} {t n : Nat} {i : TypeInfo} (hr : Rel ι h w) (ho : o.op = .store t x' y') (hi : Pg.info? t = some i) (hn : i.size = n)
    (hx : VR ι (x.ev st fr) (a.eval x')) (hy : VR ι (y.ev st fr) (a.eval y')) (hs : (cSt n x y st fr h).safe) : OpOK Pg a o w ι h (cSt n x y st fr h) := by
  unfold cSt at hs ⊢
  obtain ⟨b, off, hv, e⟩ := onPtr_safe hs
  rw [e] at hs ⊢
  obtain ⟨vs, hf, e⟩ := onSome_safe hs
  rw [e] at hs ⊢
  obtain ⟨hl, e⟩ := cond_safe hs
  rw [e] at hs ⊢
  obtain ⟨h', hw, e⟩ := onSome_safe hs
  rw [e]
  rw [hv] at hx
  obtain ⟨l, hl1, hx'⟩ := hx.ptr_inv
  have hc := hy.flat1 hf
  rw [natBeq_iff, len_eq] at hl
  have hlen := hc.1.1
  obtain ⟨h1, h2⟩ := hr.write (P' := Pg) hw hl1 hc
  refine OpOK.skip ?_ h2
  have hsz : (a.eval y').cells.size = n := by simp at hlen; omega
  simp [execOp, ho, Instr.storeAt, hx', Instr.sureAddr, storeVar, sizeOf, typeInfo, hi, hn, hsz, h1]
end
end Go.Am
namespace Go.Am
section
variable {Pg : Program} {a : Act} {o : Oper} {w : World} {ι : Io} {h : H} {st : St} {fr : Fr}

theorem VR.int_inv {k : IntKind} {n : Int} {v' : Value} (h : VR ι (.int k n) v') : v' = .int k n := by cases h; rfl
theorem VR.bool_inv {b : Bool} {v' : Value} (h : VR ι (.bool b) v') : v' = .bool b := by cases h; rfl
theorem VR.str_inv {l : List Nat} {v' : Value} (h : VR ι (.str l) v') : ∃ s : ByteArray, v' = .string s ∧ l = s.data.toList.map (·.toNat) := by cases h; exact ⟨_, rfl, rfl⟩

/-- 'x op y' of numbers of one kind -/
theorem run_int_bin {op : BinOp} {t yt : TypeId} {x y : Operand} {k : IntKind} {m n : Int} (ho : o.op = .binOp op t x y yt) (hx : a.eval x = .int k m) (hy : a.eval y = .int k n) (hop : op ≠ .shl ∧ op ≠ .shr) :
    (execOp a.eval o).run Pg w = (do pure (Next.value (← (match op with | .add | .sub | .mul => Op.intArith op k m n | .quo | .rem => Op.intDiv op k m n | .and | .or | .xor | .andNot => Op.intBits op k m n | _ => Op.intCmp op m n))) : Sem Next).run Pg w := by
  have hg : (eqGuard op t x y (.int k m) (.int k n)).run Pg w = .ok () w := by
    unfold eqGuard
    cases op <;> simp
  simp only [execOp, ho, hx, hy, Sem.run_bind, hg, Result.andThen_ok]
  cases op <;> simp [binOp] at hop ⊢

theorem ok_ar {op : AOp} {bop : BinOp} {k : IntKind} {x y : X} {x' y' : Operand} {t yt : TypeId} (hr : Rel ι h w) (ho : o.op = .binOp bop t x' y' yt)
    (hop : (match op with | .add => BinOp.add | .sub => .sub | .mul => .mul | .quo => .quo | .rem => .rem) = bop)
    (hx : VR ι (x.ev st fr) (a.eval x')) (hy : VR ι (y.ev st fr) (a.eval y')) (hs : (cAr op k x y st fr h).safe) : OpOK Pg a o w ι h (cAr op k x y st fr h) := by
  unfold cAr at hs ⊢
  obtain ⟨k1, m, hv, e⟩ := onInt_safe hs
  rw [e] at hs ⊢
  obtain ⟨k2, n, hu, e⟩ := onInt_safe hs
  rw [e] at hs ⊢
  obtain ⟨h1, e⟩ := cond_safe hs
  rw [e] at hs ⊢
  obtain ⟨h2, e⟩ := cond_safe hs
  rw [e] at hs ⊢
  rw [kEq_iff] at h1 h2
  subst h1
  subst h2
  rw [hv] at hx
  rw [hu] at hy
  have hrun := run_int_bin (Pg := Pg) (w := w) ho hx.int_inv hy.int_inv (by cases op <;> simp at hop <;> subst hop <;> simp)
  cases op <;> simp only at hop <;> subst hop
  · refine OpOK.pure hr (v' := .int k2 (k2.wrap (m + n))) ?_ ?_
    · rw [hrun]; simp [Op.intArith]
    · rw [← wrapQ_eq]; exact .int _ _
  · refine OpOK.pure hr (v' := .int k2 (k2.wrap (m - n))) ?_ ?_
    · rw [hrun]; simp [Op.intArith]
    · rw [← wrapQ_eq]; exact .int _ _
  · refine OpOK.pure hr (v' := .int k2 (k2.wrap (m * n))) ?_ ?_
    · rw [hrun]; simp [Op.intArith]
    · rw [← wrapQ_eq]; exact .int _ _
  · have hn : n ≠ 0 := by
      intro h0; subst h0
      exact hs.elim
    have hc : arI .quo k2 m n h = .ok (.int k2 (wrapQ k2 (Int.tdiv m n))) h := by
      show cond (intEq n 0) R.no _ = _
      rw [show intEq n 0 = false from by rw [Bool.eq_false_iff]; intro h'; exact hn ((intEq_iff _ _).1 h')]; rfl
    rw [hc]
    refine OpOK.pure hr (v' := .int k2 (k2.wrap (m.tdiv n))) ?_ ?_
    · rw [hrun]; simp [Op.intDiv, hn]
    · rw [← wrapQ_eq]; exact .int _ _
  · have hn : n ≠ 0 := by
      intro h0; subst h0
      exact hs.elim
    have hc : arI .rem k2 m n h = .ok (.int k2 (Int.tmod m n)) h := by
      show cond (intEq n 0) R.no _ = _
      rw [show intEq n 0 = false from by rw [Bool.eq_false_iff]; intro h'; exact hn ((intEq_iff _ _).1 h')]; rfl
    rw [hc]
    refine OpOK.pure hr (v' := .int k2 (m.tmod n)) ?_ (.int _ _)
    rw [hrun]; simp [Op.intDiv, hn]

def copB : COp → BinOp | .eq => .eql | .ne => .neq | .lt => .lss | .le => .leq | .gt => .gtr | .ge => .geq
theorem cmpI_eq (op : COp) (m n : Int) : Op.intCmp (copB op) m n = pure (.bool (cmpI op m n)) := by
  cases op <;> simp only [copB, Op.intCmp, cmpI, intEq_dec, intLe_dec] <;> first | rfl | (congr 2; rw [Bool.eq_iff_iff]; simp)
theorem ok_cmp {op : COp} {x y : X} {x' y' : Operand} {t yt : TypeId} (hr : Rel ι h w) (ho : o.op = .binOp (copB op) t x' y' yt)
    (hx : VR ι (x.ev st fr) (a.eval x')) (hy : VR ι (y.ev st fr) (a.eval y')) (hs : (cCmp op x y st fr h).safe) : OpOK Pg a o w ι h (cCmp op x y st fr h) := by
  unfold cCmp at hs ⊢
  obtain ⟨k1, m, hv, e⟩ := onInt_safe hs
  rw [e] at hs ⊢
  obtain ⟨k2, n, hu, e⟩ := onInt_safe hs
  rw [e] at hs ⊢
  obtain ⟨h1, e⟩ := cond_safe hs
  rw [e]
  rw [kEq_iff] at h1
  subst h1
  rw [hv] at hx
  rw [hu] at hy
  have hrun := run_int_bin (Pg := Pg) (w := w) ho hx.int_inv hy.int_inv (by cases op <;> simp [copB])
  refine OpOK.pure hr (v' := .bool (cmpI op m n)) ?_ (.bool _)
  rw [hrun]
  have hc : (match copB op with | .add | .sub | .mul => Op.intArith (copB op) k1 m n | .quo | .rem => Op.intDiv (copB op) k1 m n | .and | .or | .xor | .andNot => Op.intBits (copB op) k1 m n | _ => Op.intCmp (copB op) m n) = pure (.bool (cmpI op m n)) := by
    rw [← cmpI_eq]
    cases op <;> rfl
  rw [hc]
  simp

theorem modN_eq (k : IntKind) (n : Int) : modN k n = (BitVec.ofInt k.bits n).toNat := by
  unfold modN
  rw [BitVec.toNat_ofInt]
  congr 1
  show n % _ = _
  rw [show (Int.ofNat (pow2 k)) = ((2 ^ k.bits : Nat) : Int) from by cases k <;> rfl]
theorem pow2_nat (k : IntKind) : pow2 k = 2 ^ k.bits := by cases k <;> rfl
theorem bitsI_eq (op : BOp) (k : IntKind) (m n : Int) : bitsI op k (modN k m) (modN k n) = (match op with
    | .and => BitVec.ofInt k.bits m &&& BitVec.ofInt k.bits n | .or => BitVec.ofInt k.bits m ||| BitVec.ofInt k.bits n | .xor => BitVec.ofInt k.bits m ^^^ BitVec.ofInt k.bits n
    | .andNot => BitVec.ofInt k.bits m &&& ~~~(BitVec.ofInt k.bits n)).toNat := by
  cases op <;> simp only [bitsI, modN_eq, BitVec.toNat_and, BitVec.toNat_or, BitVec.toNat_xor, BitVec.toNat_not, pow2_nat] <;> rfl
theorem ok_bits {op : BOp} {bop : BinOp} {k : IntKind} {x y : X} {x' y' : Operand} {t yt : TypeId} (hr : Rel ι h w) (ho : o.op = .binOp bop t x' y' yt)
    (hop : (match op with | .and => BinOp.and | .or => .or | .xor => .xor | .andNot => .andNot) = bop)
    (hx : VR ι (x.ev st fr) (a.eval x')) (hy : VR ι (y.ev st fr) (a.eval y')) (hs : (cBits op k x y st fr h).safe) : OpOK Pg a o w ι h (cBits op k x y st fr h) := by
  unfold cBits at hs ⊢
  obtain ⟨k1, m, hv, e⟩ := onInt_safe hs
  rw [e] at hs ⊢
  obtain ⟨k2, n, hu, e⟩ := onInt_safe hs
  rw [e] at hs ⊢
  obtain ⟨h1, e⟩ := cond_safe hs
  rw [e] at hs ⊢
  obtain ⟨h2, e⟩ := cond_safe hs
  rw [e]
  rw [kEq_iff] at h1 h2
  subst h1
  subst h2
  rw [hv] at hx
  rw [hu] at hy
  have hrun := run_int_bin (Pg := Pg) (w := w) ho hx.int_inv hy.int_inv (by cases op <;> simp at hop <;> subst hop <;> simp)
  rw [wrapQ_eq, bitsI_eq]
  refine OpOK.pure hr (v' := _) ?_ (.int _ _)
  rw [hrun]
  cases op <;> simp only at hop <;> subst hop <;> simp [Op.intBits]

theorem run_shift {op : BinOp} {t yt : TypeId} {x y : Operand} {k k2 : IntKind} {m n : Int} (ho : o.op = .binOp op t x y yt) (hop : op = .shl ∨ op = .shr) (hx : a.eval x = .int k m) (hy : a.eval y = .int k2 n) :
    (execOp a.eval o).run Pg w = (do pure (Next.value (← Op.shift op k m k2 n)) : Sem Next).run Pg w := by
  rcases hop with rfl | rfl <;> simp [execOp, ho, hx, hy, eqGuard, binOp]
theorem shiftN_eq (k : IntKind) (n : Int) : (Int.ofNat (shiftN k n)) = 2 ^ (min n.toNat k.bits) := by
  unfold shiftN
  by_cases hc : n.toNat ≤ k.bits
  · rw [show Nat.ble n.toNat k.bits = true from by rw [Nat.ble_eq]; exact hc, cond_true, Nat.min_eq_left hc]
    show ((2 ^ n.toNat : Nat) : Int) = _
    simp
  · rw [show Nat.ble n.toNat k.bits = false from by rw [Bool.eq_false_iff]; intro h'; rw [Nat.ble_eq] at h'; exact hc h', cond_false, Nat.min_eq_right (by omega)]
    show ((2 ^ k.bits : Nat) : Int) = _
    simp
theorem ok_shl {k : IntKind} {x y : X} {x' y' : Operand} {t yt : TypeId} (hr : Rel ι h w) (ho : o.op = .binOp .shl t x' y' yt)
    (hx : VR ι (x.ev st fr) (a.eval x')) (hy : VR ι (y.ev st fr) (a.eval y')) (hs : (cShl k x y st fr h).safe) : OpOK Pg a o w ι h (cShl k x y st fr h) := by
  unfold cShl at hs ⊢
  obtain ⟨k1, m, hv, e⟩ := onInt_safe hs
  rw [e] at hs ⊢
  obtain ⟨k2, n, hu, e⟩ := onInt_safe hs
  rw [e] at hs ⊢
  obtain ⟨h1, e⟩ := cond_safe hs
  rw [e] at hs ⊢
  obtain ⟨h2, e⟩ := cond_safe hs
  rw [e]
  rw [kEq_iff] at h1
  rw [intLe_iff] at h2
  subst h1
  rw [hv] at hx
  rw [hu] at hy
  have hrun := run_shift (Pg := Pg) (w := w) ho (.inl rfl) hx.int_inv hy.int_inv
  rw [wrapQ_eq, shiftN_eq]
  refine OpOK.pure hr (v' := _) ?_ (.int _ _)
  rw [hrun]
  simp [Op.shift, show ¬ n < 0 by omega]
theorem ok_shr {k : IntKind} {x y : X} {x' y' : Operand} {t yt : TypeId} (hr : Rel ι h w) (ho : o.op = .binOp .shr t x' y' yt)
    (hx : VR ι (x.ev st fr) (a.eval x')) (hy : VR ι (y.ev st fr) (a.eval y')) (hs : (cShr k x y st fr h).safe) : OpOK Pg a o w ι h (cShr k x y st fr h) := by
  unfold cShr at hs ⊢
  obtain ⟨k1, m, hv, e⟩ := onInt_safe hs
  rw [e] at hs ⊢
  obtain ⟨k2, n, hu, e⟩ := onInt_safe hs
  rw [e] at hs ⊢
  obtain ⟨h1, e⟩ := cond_safe hs
  rw [e] at hs ⊢
  obtain ⟨h2, e⟩ := cond_safe hs
  rw [e]
  rw [kEq_iff] at h1
  rw [intLe_iff] at h2
  subst h1
  rw [hv] at hx
  rw [hu] at hy
  have hrun := run_shift (Pg := Pg) (w := w) ho (.inr rfl) hx.int_inv hy.int_inv
  rw [shiftN_eq]
  refine OpOK.pure hr (v' := _) ?_ (.int _ _)
  rw [hrun]
  simp [Op.shift, show ¬ n < 0 by omega]

/-! strings -/
theorem toNat_inj (a b : List UInt8) : a.map (·.toNat) = b.map (·.toNat) ↔ a = b := by
  refine ⟨fun h => ?_, fun h => by rw [h]⟩
  exact List.map_inj_right (fun x y e => UInt8.toNat_inj.1 e) |>.1 h
theorem beqL_nat (a b : List Nat) : beqL Nat.beq a b = (a == b) := by
  rw [Bool.eq_iff_iff, beqL_iff _ natBeq_iff]; simp
theorem bytesLt_eq : ∀ (a b : List UInt8), bytesLt (a.map (·.toNat)) (b.map (·.toNat)) = Op.bytesLess a b
  | [], [] => rfl
  | [], _ :: _ => rfl
  | _ :: _, [] => rfl
  | x :: a, y :: b => by
    show cond (Nat.blt x.toNat y.toNat) true (cond (Nat.beq x.toNat y.toNat) (bytesLt (a.map (·.toNat)) (b.map (·.toNat))) false) = _
    rw [bytesLt_eq a b]
    simp only [Op.bytesLess]
    by_cases h1 : x < y
    · rw [show Nat.blt x.toNat y.toNat = true from (natBlt_iff _ _).2 (UInt8.lt_iff_toNat_lt.1 h1)]; simp [h1]
    · rw [show Nat.blt x.toNat y.toNat = false from by rw [Bool.eq_false_iff]; intro h'; exact h1 (UInt8.lt_iff_toNat_lt.2 ((natBlt_iff _ _).1 h'))]
      by_cases h2 : x = y
      · subst h2; rw [show Nat.beq x.toNat x.toNat = true from Nat.beq_refl _]; simp
      · rw [show Nat.beq x.toNat y.toNat = false from by rw [Bool.eq_false_iff]; intro h'; exact h2 (UInt8.toNat_inj.1 ((natBeq_iff _ _).1 h'))]; simp [h1, h2]
theorem bytesLess_total : ∀ (a b : List UInt8), (Op.bytesLess a b || a == b) = !(Op.bytesLess b a)
  | [], [] => rfl
  | [], _ :: _ => rfl
  | _ :: _, [] => rfl
  | x :: a, y :: b => by
    have ih := bytesLess_total a b
    simp only [Op.bytesLess]
    by_cases h : x < y
    · have h' : ¬ y < x := fun k => by rw [UInt8.lt_iff_toNat_lt] at h k; omega
      have h2 : ¬ y = x := fun e => by subst e; exact h' h
      simp [h, h', h2]
    · by_cases h1 : x = y
      · subst h1
        have h' : ¬ x < x := fun k => by rw [UInt8.lt_iff_toNat_lt] at k; omega
        simp only [h', decide_false, Bool.false_or, beq_self_eq_true, Bool.true_and]
        simpa using ih
      · have h' : y < x := by
          rw [UInt8.lt_iff_toNat_lt] at h ⊢
          have : x.toNat ≠ y.toNat := fun e => h1 (UInt8.toNat_inj.1 e)
          omega
        have h2 : ¬ y = x := fun e => h1 e.symm
        simp [h, h', h1]
theorem toList_data (s : ByteArray) : s.toList = s.data.toList := ByteArray.toList_eq s
theorem run_str_bin {op : BinOp} {t yt : TypeId} {x y : Operand} {m n : ByteArray} (ho : o.op = .binOp op t x y yt) (hx : a.eval x = .string m) (hy : a.eval y = .string n) :
    (execOp a.eval o).run Pg w = (do pure (Next.value (← Op.stringOp op m n)) : Sem Next).run Pg w := by
  have hg : (eqGuard op t x y (.string m) (.string n)).run Pg w = .ok () w := by
    unfold eqGuard
    cases op <;> simp
  simp only [execOp, ho, hx, hy, Sem.run_bind, hg, Result.andThen_ok]
  cases op <;> simp [binOp]
theorem ok_sadd {x y : X} {x' y' : Operand} {t yt : TypeId} (hr : Rel ι h w) (ho : o.op = .binOp .add t x' y' yt)
    (hx : VR ι (x.ev st fr) (a.eval x')) (hy : VR ι (y.ev st fr) (a.eval y')) (hs : (cSadd x y st fr h).safe) : OpOK Pg a o w ι h (cSadd x y st fr h) := by
  unfold cSadd at hs ⊢
  obtain ⟨l1, hv, e⟩ := onStr_safe hs
  rw [e] at hs ⊢
  obtain ⟨l2, hu, e⟩ := onStr_safe hs
  rw [e] at hs ⊢
  obtain ⟨h1, e⟩ := cond_safe hs
  rw [e]
  rw [hv] at hx
  rw [hu] at hy
  obtain ⟨s, hs1, rfl⟩ := hx.str_inv
  obtain ⟨u, hu1, rfl⟩ := hy.str_inv
  have hrun := run_str_bin (Pg := Pg) (w := w) ho hs1 hu1
  rw [natBle_iff, len_eq, len_eq] at h1
  simp only [List.length_map] at h1
  have hsz : s.size + u.size ≤ 9223372036854775807 := by
    have e1 : s.data.toList.length = s.size := by simp
    have e2 : u.data.toList.length = u.size := by simp
    have h1' : s.data.toList.length + u.data.toList.length ≤ 9223372036854775807 := h1
    omega
  refine OpOK.pure hr (v' := .string (s ++ u)) ?_ ?_
  · rw [hrun]
    have : ¬ (((s.size + u.size : Nat) : Int) > IntKind.i64.max) := by
      rw [show IntKind.i64.max = 9223372036854775807 from rfl]; omega
    simp only [Op.stringOp]
    rw [if_neg this]
    simp
  · rw [app_eq, ← List.map_append]
    have : (s ++ u).data.toList = s.data.toList ++ u.data.toList := by simp
    rw [← this]
    exact .str _
theorem cmpS_eq (op : COp) (s u : ByteArray) : Op.stringOp (copB op) s u = pure (.bool (cmpS op (s.data.toList.map (·.toNat)) (u.data.toList.map (·.toNat)))) := by
  have e1 : beqL Nat.beq (s.data.toList.map (·.toNat)) (u.data.toList.map (·.toNat)) = (s.toList == u.toList) := by
    rw [beqL_nat, Bool.eq_iff_iff]; simp only [beq_iff_eq, toNat_inj, toList_data]
  have e2 : bytesLt (s.data.toList.map (·.toNat)) (u.data.toList.map (·.toNat)) = Op.bytesLess s.toList u.toList := by rw [bytesLt_eq, toList_data, toList_data]
  have e3 : bytesLt (u.data.toList.map (·.toNat)) (s.data.toList.map (·.toNat)) = Op.bytesLess u.toList s.toList := by rw [bytesLt_eq, toList_data, toList_data]
  have htot := bytesLess_total s.toList u.toList
  cases op <;> simp only [copB, Op.stringOp, cmpS, e1, e2, e3] <;> first | rfl | (rw [htot]; done) | (rw [htot, Bool.not_not])
theorem ok_scmp {op : COp} {x y : X} {x' y' : Operand} {t yt : TypeId} (hr : Rel ι h w) (ho : o.op = .binOp (copB op) t x' y' yt)
    (hx : VR ι (x.ev st fr) (a.eval x')) (hy : VR ι (y.ev st fr) (a.eval y')) (hs : (cScmp op x y st fr h).safe) : OpOK Pg a o w ι h (cScmp op x y st fr h) := by
  unfold cScmp at hs ⊢
  obtain ⟨l1, hv, e⟩ := onStr_safe hs
  rw [e] at hs ⊢
  obtain ⟨l2, hu, e⟩ := onStr_safe hs
  rw [e]
  rw [hv] at hx
  rw [hu] at hy
  obtain ⟨s, hs1, rfl⟩ := hx.str_inv
  obtain ⟨u, hu1, rfl⟩ := hy.str_inv
  have hrun := run_str_bin (Pg := Pg) (w := w) ho hs1 hu1
  refine OpOK.pure hr (v' := .bool (cmpS op (s.data.toList.map (·.toNat)) (u.data.toList.map (·.toNat)))) ?_ (.bool _)
  rw [hrun, cmpS_eq]
  simp
end
end Go.Am
namespace Go.Am
section
variable {Pg : Program} {a : Act} {o : Oper} {w : World} {ι : Io} {h : H} {st : St} {fr : Fr}

/-- the kind of a scalar type -/
def skTy (Pg : Program) (t : TypeId) : SK → Bool
  | .int => match Pg.underlying t with | some (.int _) => true | _ => false
  | .bool => match Pg.underlying t with | some .bool => true | _ => false
  | .str => match Pg.underlying t with | some .string => true | _ => false
def flatTyFrom (Pg : Program) : Nat → List Field → List SK → Bool
  | _, [], [] => true
  | i, f :: fs, s :: ks => decide (f.name ≠ "_") && Nat.beq f.offset i && skTy Pg f.type s && flatTyFrom Pg (i + 1) fs ks
  | _, _, _ => false
def flatTy (Pg : Program) (t : TypeId) (ks : List SK) : Bool :=
  (match Pg.underlying t with | some (.struct fs) => flatTyFrom Pg 0 fs.toList ks | _ => false) && !(Pg.stoodInHeld t)
def dynTy (Pg : Program) : List (Nat × Bool) → Bool
  | [] => true
  | (u, i) :: r => (match Pg.info? u with | some inf => inf.comparable | none => false) && (match i, Pg.underlying u with
      | true, some (.int _) => true
      | false, some (.pointer e) => !(Nat.beq (Pg.cellsOf e) 0)
      | _, _ => false) && dynTy Pg r
def eqTy (Pg : Program) (t : TypeId) (c : Bool) : EqK → Bool
  | .bool => match Pg.underlying t with | some .bool => true | _ => false
  | .ptr => match Pg.underlying t with | some (.pointer e) => !(Nat.beq (Pg.cellsOf e) 0) | _ => false
  | .iface cn tys => (match Pg.underlying t with | some (.interface _) => true | _ => false) && (c || !cn) && dynTy Pg tys
  | .flat ks => flatTy Pg t ks && !(Pg.eqGuardType Pg.depth t)
  | .slice => match Pg.underlying t with | some (.slice _) => true | _ => false
  | .map => match Pg.underlying t with | some (.map _ _) => true | _ => false
  | .func => match Pg.underlying t with | some (.func _ _ _) => true | _ => false

theorem cellsOf_sizeOf {e : TypeId} (he : Pg.cellsOf e ≠ 0) (w : World) : (sizeOf e).run Pg w = .ok (Pg.cellsOf e) w := by
  unfold Program.cellsOf at he ⊢
  cases hi : Pg.info? e with
  | none => rw [hi] at he; simp at he
  | some i => simp [sizeOf, typeInfo, hi]

theorem skEq_ok {s : SK} {x y : V} {x' y' : Value} {b : Bool} (hx : VR ι x x') (hy : VR ι y y') (e : skEq s x y = some b) {t : TypeId} (ht : skTy Pg t s = true) (d : Nat) (w : World) :
    (Op.equalIn (d + 1) t x' y').run Pg w = .ok b w := by
  unfold skEq at e
  split at e
  · rw [hx.int_inv, hy.int_inv]
    rename_i k1 m k2 n
    cases hk : kEq k1 k2 with
    | false => rw [hk] at e; cases e
    | true =>
      rw [hk] at e
      obtain rfl := Option.some.inj e
      rw [kEq_iff] at hk
      subst hk
      simp only [skTy] at ht
      split at ht
      · rename_i k hu; rw [run_equalIn_int w d t k1 _ m n hu, intEq_dec]
      · cases ht
  · rw [hx.bool_inv, hy.bool_inv]
    rename_i p q
    obtain rfl := Option.some.inj e
    simp only [skTy] at ht
    split at ht
    · rename_i hu; rw [run_equalIn_bool' w d t _ _ hu]; cases p <;> cases q <;> rfl
    · cases ht
  · obtain ⟨s1, hs1, rfl⟩ := hx.str_inv
    obtain ⟨s2, hs2, rfl⟩ := hy.str_inv
    rw [hs1, hs2]
    obtain rfl := Option.some.inj e
    simp only [skTy] at ht
    split at ht
    · rename_i hu
      rw [run_equalIn_string w d t _ _ hu, beqL_nat]
      congr 1
      rw [Bool.eq_iff_iff]; simp only [beq_iff_eq, toNat_inj, toList_data]
    · cases ht
  · cases e

theorem not_agg_of_sk {t : TypeId} {s : SK} (ht : skTy Pg t s = true) (w : World) : (isAgg t).run Pg w = .ok false w := by
  cases s <;> simp only [skTy] at ht <;> split at ht <;> first | (rename_i hu; simp [isAgg, run_underlying hu]; done) | cases ht
theorem run_part_sk {t : TypeId} {s : SK} (ht : skTy Pg t s = true) {cs : Array Value} {off : Nat} {v : Value} (hv : cs[off]? = some v) (w : World) : (part t cs off).run Pg w = .ok v w := by
  simp [part, not_agg_of_sk ht w, hv]

theorem flatEq_ok {d : Nat} {xs' ys' : Array Value} (w : World) : ∀ {ks : List SK} {xs ys : List V} {fs : List Field} {i : Nat} {b : Bool}, flatEq ks xs ys = some b → flatTyFrom Pg i fs ks = true →
    (∀ (j : Nat) (v : V), xs[j]? = some v → ∃ v', xs'[i + j]? = some v' ∧ VR ι v v') → (∀ (j : Nat) (v : V), ys[j]? = some v → ∃ v', ys'[i + j]? = some v' ∧ VR ι v v') → (Op.eqFields (d + 1) xs' ys' fs).run Pg w = .ok b w
  | [], xs, ys, fs, i, b, e, ht, _, _ => by
    cases xs with
    | cons => cases e
    | nil => cases ys with
      | cons => cases e
      | nil =>
        obtain rfl := Option.some.inj (show some true = some b from e)
        cases fs with
        | nil => simp [Op.eqFields]
        | cons => simp [flatTyFrom] at ht
  | s :: ks, xs, ys, fs, i, b, e, ht, hx, hy => by
    cases xs with
    | nil => cases e
    | cons x xs => cases ys with
      | nil => cases e
      | cons y ys =>
        have e : Option.casesOn (motive := fun _ => Option Bool) (skEq s x y) none (fun b => cond b (flatEq ks xs ys) (some false)) = some b := e
        cases fs with
        | nil => simp [flatTyFrom] at ht
        | cons f fs =>
          simp only [flatTyFrom, Bool.and_eq_true, decide_eq_true_eq, natBeq_iff] at ht
          obtain ⟨⟨⟨h1, h2⟩, h3⟩, h4⟩ := ht
          obtain ⟨x', hx1, hx2⟩ := hx 0 x rfl
          obtain ⟨y', hy1, hy2⟩ := hy 0 y rfl
          cases hq : skEq s x y with
          | none => rw [hq] at e; cases e
          | some q =>
            rw [hq] at e
            have e : cond q (flatEq ks xs ys) (some false) = some b := e
            have hrun := skEq_ok hx2 hy2 hq h3 d w
            have ih := fun (b : Bool) (e : flatEq ks xs ys = some b) => flatEq_ok (d := d) (xs' := xs') (ys' := ys') w (fs := fs) (i := i + 1) e h4
              (fun j v hj => by have := hx (j + 1) v (by simpa using hj); rwa [show i + (j + 1) = i + 1 + j by omega] at this)
              (fun j v hj => by have := hy (j + 1) v (by simpa using hj); rwa [show i + (j + 1) = i + 1 + j by omega] at this)
            simp only [Nat.add_zero] at hx1 hy1
            simp only [Op.eqFields, h1, ne_eq, not_false_eq_true, if_true, Sem.run_bind, h2, run_part_sk h3 hx1, run_part_sk h3 hy1, Result.andThen_ok, hrun, Sem.run_ite]
            cases q with
            | false => obtain rfl := Option.some.inj (show some false = some b from e); simp
            | true => simp only [Bool.not_true, Bool.false_eq_true, if_false]; exact ih b e

theorem VR.nil_inv {v' : Value} (h : VR ι .nil v') : v' = .pointer none := by cases h; rfl
theorem VR.nilsl_inv {v' : Value} (h : VR ι .nilsl v') : v' = .slice none 0 0 := by cases h; rfl
theorem VR.nilmap_inv {v' : Value} (h : VR ι .nilmap v') : v' = .map none := by cases h; rfl
theorem VR.nilfn_inv {v' : Value} (h : VR ι .nilfn v') : v' = .nilFunc := by cases h; rfl
theorem VR.niliface_inv {v' : Value} (h : VR ι .niliface v') : v' = .nilIface := by cases h; rfl
theorem VR.iface_inv {t : TypeId} {v : V} {v' : Value} (h : VR ι (.iface t v) v') : ∃ u, v' = .iface t u ∧ VR ι v u := by cases h with | iface r => exact ⟨_, rfl, r⟩
theorem VR.sl_inv {b : P} {o n : Nat} {c : Cp} {v' : Value} (h : VR ι (.sl b o n c) v') : ∃ l ad cap, ι b = some l ∧ v' = .slice (some ad) n cap ∧ n ≤ cap ∧ cap ≤ maxLen ∧ capOk l o cap c ∧ (ad = ⟨l.g, l.d + o, none⟩ ∨ cap = 0) := by
  cases h with | sl a b c d e => exact ⟨_, _, _, a, rfl, b, c, d, e⟩
theorem VR.map_inv {b : P} {v' : Value} (h : VR ι (.map b) v') : ∃ l, ι b = some l ∧ v' = .map (some l.g) := by cases h with | map e => exact ⟨_, e, rfl⟩
theorem VR.fn_inv {f : P} {p c : List V} {v' : Value} (h : VR ι (.fn f p c) v') : ∃ p' c' : Array Value, v' = .func (.func f.num) p' c' ∧ VRs ι p p'.toList ∧ VRs ι c c'.toList := by
  cases h with | fn e1 e2 r1 r2 => exact ⟨_, _, rfl, ⟨by simpa using e1, fun i v v' a b => r1 i v v' a (by simpa using b)⟩, ⟨by simpa using e2, fun i v v' a b => r2 i v v' a (by simpa using b)⟩⟩

theorem eqPtr_ok {b b' : P} {p q : Nat} {r : Bool} {x' y' : Value} (hx : VR ι (.ptr b p) x') (hy : VR ι (.ptr b' q) y') (e : eqPtr b p b' q = some r) {t el : TypeId} (ht : Pg.underlying t = some (.pointer el)) (he : Pg.cellsOf el ≠ 0) (d : Nat) (w : World) :
    (Op.equalIn (d + 1) t x' y').run Pg w = .ok r w := by
  unfold eqPtr at e
  cases hb : b.beq b' with
  | false => rw [hb] at e; cases e
  | true =>
    rw [hb] at e
    obtain rfl := Option.some.inj e
    rw [P.beq_iff] at hb
    subst hb
    obtain ⟨l, hl, rfl⟩ := hx.ptr_inv
    obtain ⟨l', hl', rfl⟩ := hy.ptr_inv
    rw [hl] at hl'
    obtain rfl := Option.some.inj hl'
    have hadr : ((⟨l.g, l.d + p, none⟩ : Addr) == ⟨l.g, l.d + q, none⟩) = Nat.beq p q := by
      rw [Bool.eq_iff_iff, natBeq_iff]; simp
    simp [Op.equalIn, run_underlying ht, cellsOf_sizeOf he, he, sameAddr, hadr]

theorem dynTy_look : ∀ {tys : List (Nat × Bool)} {t : Nat} {i : Bool}, dynTy Pg tys = true → lookT t tys = some i →
    (∃ inf, Pg.info? t = some inf ∧ inf.comparable = true) ∧ (i = true → ∃ k, Pg.underlying t = some (.int k)) ∧ (i = false → ∃ el, Pg.underlying t = some (.pointer el) ∧ Pg.cellsOf el ≠ 0)
  | [], t, i, _, h => by cases h
  | (u, j) :: r, t, i, hd, h => by
    have h : cond (Nat.beq u t) (some j) (lookT t r) = some i := h
    simp only [dynTy, Bool.and_eq_true] at hd
    obtain ⟨⟨h1, h2⟩, h3⟩ := hd
    cases hu : Nat.beq u t with
    | false => rw [hu] at h; exact dynTy_look h3 h
    | true =>
      rw [hu] at h
      rw [natBeq_iff] at hu
      subst hu
      obtain rfl := Option.some.inj h
      refine ⟨?_, ?_, ?_⟩
      · split at h1
        · exact ⟨_, ‹_›, h1⟩
        · cases h1
      · rintro rfl
        split at h2
        · exact ⟨_, ‹_›⟩
        · simp at *
        · cases h2
      · rintro rfl
        split at h2
        · simp at *
        · rename_i el _ hel; refine ⟨el, hel, fun e => ?_⟩; rw [e] at h2; cases h2
        · cases h2

/-- what '==' says at once of two values -/
def eqNowB : TypeDesc → Value → Value → Option Bool
  | .pointer _, .pointer none, .pointer b => some b.isNone
  | .pointer _, .pointer _, .pointer none => some false
  | .interface _, .nilIface, .nilIface => some true
  | .interface _, .nilIface, .iface _ _ => some false
  | .interface _, .iface _ _, .nilIface => some false
  | .slice _, .slice none _ _, .slice b _ _ => some b.isNone
  | .slice _, .slice _ _ _, .slice none _ _ => some false
  | .map _ _, .map none, .map b => some b.isNone
  | .map _ _, .map _, .map none => some false
  | .func _ _ _, .nilFunc, .nilFunc => some true
  | .func _ _ _, .nilFunc, .func _ _ _ => some false
  | .func _ _ _, .func _ _ _, .nilFunc => some false
  | _, _, _ => none
theorem eqNow {t : TypeId} {d : TypeDesc} {x y : Value} {b : Bool} (hu : Pg.underlying t = some d) (n : Nat) (w : World) (e : eqNowB d x y = some b) : (Op.equalIn (n + 1) t x y).run Pg w = .ok b w := by
  rw [Op.equalIn]
  simp only [Sem.run_bind, run_underlying hu, Result.andThen_ok]
  unfold eqNowB at e
  split at e <;> first | (obtain rfl := Option.some.inj e; first | rfl | simp) | cases e
theorem eqDyn_ok {i b : Bool} {x y : V} {x' y' : Value} (hx : VR ι x x') (hy : VR ι y y') (e : eqDyn i x y = some b) {t : TypeId} (hint : i = true → ∃ k, Pg.underlying t = some (.int k))
    (hptr : i = false → ∃ el, Pg.underlying t = some (.pointer el) ∧ Pg.cellsOf el ≠ 0) (d : Nat) (w : World) : (Op.equalIn (d + 1) t x' y').run Pg w = .ok b w := by
  unfold eqDyn at e
  split at e
  · rename_i k1 m k2 n
    obtain ⟨k, hk⟩ := hint rfl
    rw [hx.int_inv, hy.int_inv]
    cases hkk : kEq k1 k2 with
    | false => rw [hkk] at e; cases e
    | true =>
      rw [hkk] at e
      obtain rfl := Option.some.inj e
      rw [kEq_iff] at hkk
      subst hkk
      rw [run_equalIn_int w d t k1 _ m n hk, intEq_dec]
  · obtain ⟨el, hel, hne⟩ := hptr rfl
    exact eqPtr_ok hx hy e hel hne d w
  · cases e
theorem eqF_ok {k : EqK} {x y : V} {x' y' : Value} {b c : Bool} (hx : VR ι x x') (hy : VR ι y y') (e : eqF k x y = some b) {t : TypeId} (ht : eqTy Pg t c k = true) (d : Nat) (w : World) :
    (Op.equalIn (d + 2) t x' y').run Pg w = .ok b w := by
  unfold eqF at e
  split at e <;> simp only [eqTy] at ht
  case h_1 =>
    rw [hx.bool_inv, hy.bool_inv]
    rename_i p q
    obtain rfl := Option.some.inj e
    split at ht
    · rename_i hu; rw [run_equalIn_bool' w (d + 1) t _ _ hu]; cases p <;> cases q <;> rfl
    · cases ht
  case h_2 =>
    rw [hx.nil_inv, hy.nil_inv]; obtain rfl := Option.some.inj e
    split at ht
    · rename_i hu; exact eqNow hu (d + 1) w rfl
    · cases ht
  case h_3 =>
    obtain ⟨l, _, rfl⟩ := hy.ptr_inv
    rw [hx.nil_inv]; obtain rfl := Option.some.inj e
    split at ht
    · rename_i hu; exact eqNow hu (d + 1) w rfl
    · cases ht
  case h_4 =>
    obtain ⟨l, _, rfl⟩ := hx.ptr_inv
    rw [hy.nil_inv]; obtain rfl := Option.some.inj e
    split at ht
    · rename_i hu; exact eqNow hu (d + 1) w rfl
    · cases ht
  case h_5 =>
    split at ht
    · rename_i el hu
      exact eqPtr_ok hx hy e hu (fun e0 => by rw [e0] at ht; cases ht) (d + 1) w
    · cases ht
  case h_6 =>
    rename_i cn tys
    rw [hx.niliface_inv, hy.niliface_inv]
    cases cn with
    | false => cases e
    | true =>
      obtain rfl := Option.some.inj e
      simp only [Bool.and_eq_true] at ht
      obtain ⟨⟨h1, _⟩, _⟩ := ht
      split at h1
      · rename_i hu; exact eqNow hu (d + 1) w rfl
      · cases h1
  case h_7 =>
    obtain ⟨u, rfl, _⟩ := hy.iface_inv
    rw [hx.niliface_inv]; obtain rfl := Option.some.inj e
    simp only [Bool.and_eq_true] at ht
    obtain ⟨⟨h1, _⟩, _⟩ := ht
    split at h1
    · rename_i hu; exact eqNow hu (d + 1) w rfl
    · cases h1
  case h_8 =>
    obtain ⟨u, rfl, _⟩ := hx.iface_inv
    rw [hy.niliface_inv]; obtain rfl := Option.some.inj e
    simp only [Bool.and_eq_true] at ht
    obtain ⟨⟨h1, _⟩, _⟩ := ht
    split at h1
    · rename_i hu; exact eqNow hu (d + 1) w rfl
    · cases h1
  case h_9 =>
    rename_i cn tys t1 v1 t2 v2
    obtain ⟨u1, rfl, hu1⟩ := hx.iface_inv
    obtain ⟨u2, rfl, hu2⟩ := hy.iface_inv
    simp only [Bool.and_eq_true] at ht
    obtain ⟨⟨h1, _⟩, h3⟩ := ht
    split at h1
    · rename_i ms hu
      cases hq : Nat.beq t1 t2 with
      | false =>
        rw [hq] at e
        obtain rfl := Option.some.inj e
        have hne : t1 ≠ t2 := fun h' => by rw [(natBeq_iff _ _).2 h'] at hq; cases hq
        show (Op.equalIn (d + 1 + 1) t _ _).run Pg w = _; rw [Op.equalIn]; simp only [Sem.run_bind, run_underlying hu, Result.andThen_ok]; rw [if_pos hne]; rfl
      | true =>
        rw [hq] at e
        rw [natBeq_iff] at hq
        subst hq
        have e : Option.casesOn (motive := fun _ => Option Bool) (lookT t1 tys) none (fun i => eqDyn i v1 v2) = some b := e
        cases hlk : lookT t1 tys with
        | none => rw [hlk] at e; cases e
        | some i =>
          rw [hlk] at e
          have e : eqDyn i v1 v2 = some b := e
          obtain ⟨⟨inf, hinf, hcmp⟩, hint, hptr⟩ := dynTy_look h3 hlk
          have hrest : (Op.equalIn (d + 1) t1 u1 u2).run Pg w = .ok b w := eqDyn_ok hu1 hu2 e hint hptr d w
          show (Op.equalIn (d + 1 + 1) t _ _).run Pg w = _
          rw [Op.equalIn]
          simp only [Sem.run_bind, run_underlying hu, Result.andThen_ok]
          simp [typeInfo, hinf, hcmp, hrest]
    · cases h1
  case h_10 =>
    rename_i ks xs ys
    obtain ⟨xs', rfl, hxs⟩ := hx.agg_cells
    obtain ⟨ys', rfl, hys⟩ := hy.agg_cells
    simp only [Bool.and_eq_true] at ht
    obtain ⟨h1, _⟩ := ht
    simp only [flatTy, Bool.and_eq_true] at h1
    obtain ⟨h1, h2⟩ := h1
    split at h1
    · rename_i fs hu
      have hf : Pg.fieldsOf t = fs := by simp [Program.fieldsOf, hu]
      rw [run_equalIn_struct w (d + 1) t xs' ys' (by rw [hf]; exact hu) (by simpa using h2), hf]
      refine flatEq_ok (ι := ι) w e h1 (fun j v hj => ?_) (fun j v hj => ?_)
      · obtain ⟨v', e1, e2⟩ := hxs.1.get hj; exact ⟨v', by simpa using e1, e2⟩
      · obtain ⟨v', e1, e2⟩ := hys.1.get hj; exact ⟨v', by simpa using e1, e2⟩
    · cases h1
  case h_11 =>
    rw [hx.nilsl_inv, hy.nilsl_inv]; obtain rfl := Option.some.inj e
    split at ht
    · rename_i hu; exact eqNow hu (d + 1) w rfl
    · cases ht
  case h_12 =>
    obtain ⟨l, ad, cap, _, rfl, _⟩ := hy.sl_inv
    rw [hx.nilsl_inv]; obtain rfl := Option.some.inj e
    split at ht
    · rename_i hu; exact eqNow hu (d + 1) w rfl
    · cases ht
  case h_13 =>
    obtain ⟨l, ad, cap, _, rfl, _⟩ := hx.sl_inv
    rw [hy.nilsl_inv]; obtain rfl := Option.some.inj e
    split at ht
    · rename_i hu; exact eqNow hu (d + 1) w rfl
    · cases ht
  case h_14 =>
    rw [hx.nilmap_inv, hy.nilmap_inv]; obtain rfl := Option.some.inj e
    split at ht
    · rename_i hu; exact eqNow hu (d + 1) w rfl
    · cases ht
  case h_15 =>
    obtain ⟨l, _, rfl⟩ := hy.map_inv
    rw [hx.nilmap_inv]; obtain rfl := Option.some.inj e
    split at ht
    · rename_i hu; exact eqNow hu (d + 1) w rfl
    · cases ht
  case h_16 =>
    obtain ⟨l, _, rfl⟩ := hx.map_inv
    rw [hy.nilmap_inv]; obtain rfl := Option.some.inj e
    split at ht
    · rename_i hu; exact eqNow hu (d + 1) w rfl
    · cases ht
  case h_17 =>
    rw [hx.nilfn_inv, hy.nilfn_inv]; obtain rfl := Option.some.inj e
    split at ht
    · rename_i hu; exact eqNow hu (d + 1) w rfl
    · cases ht
  case h_18 =>
    obtain ⟨p', c', rfl, _⟩ := hy.fn_inv
    rw [hx.nilfn_inv]; obtain rfl := Option.some.inj e
    split at ht
    · rename_i hu; exact eqNow hu (d + 1) w rfl
    · cases ht
  case h_19 =>
    obtain ⟨p', c', rfl, _⟩ := hx.fn_inv
    rw [hy.nilfn_inv]; obtain rfl := Option.some.inj e
    split at ht
    · rename_i hu; exact eqNow hu (d + 1) w rfl
    · cases ht
  case h_20 => cases e

def isConO : Operand → Bool
  | .const _ => true
  | _ => false
theorem eqF_con {k : EqK} {x y : V} {b c : Bool} (hx : VR ι x .nilIface) (hy : VR ι y .nilIface) (e : eqF k x y = some b) {t : TypeId} (ht : eqTy Pg t c k = true) : c = true := by
  unfold eqF at e
  split at e <;> first | (cases hx; done) | (cases hy; done) | skip
  · rename_i cn tys
    cases cn with
    | false => cases e
    | true => simp only [eqTy, Bool.and_eq_true, Bool.or_eq_true, Bool.not_true, Bool.false_eq_true, or_false] at ht; exact ht.1.2
  · cases e
theorem eqF_agg {k : EqK} {x y : V} {xs ys : Array Value} {b c : Bool} (hx : VR ι x (.agg xs)) (hy : VR ι y (.agg ys)) (e : eqF k x y = some b) {t : TypeId} (ht : eqTy Pg t c k = true) : Pg.eqGuardType Pg.depth t = false := by
  unfold eqF at e
  split at e <;> first | (cases hx; done) | (cases hy; done) | skip
  · simp only [eqTy, Bool.and_eq_true] at ht
    simpa using ht.2
  · cases e
theorem eqGuard_ok {k : EqK} {x y : V} {x' y' : Operand} {b : Bool} {op : BinOp} (hx : VR ι x (a.eval x')) (hy : VR ι y (a.eval y')) (e : eqF k x y = some b) {t : TypeId} (ht : eqTy Pg t (isConO x' || isConO y') k = true) (w : World) :
    (eqGuard op t x' y' (a.eval x') (a.eval y')).run Pg w = .ok () w := by
  unfold eqGuard
  by_cases hop : (!(match op with | .eql | .neq => true | _ => false)) = true
  · cases op <;> simp at hop ⊢
  · have hcase : (∃ hn : a.eval x' = .nilIface ∧ a.eval y' = .nilIface, True) ∨ (∃ xs ys, a.eval x' = .agg xs ∧ a.eval y' = .agg ys) ∨ (∀ xs ys, ¬ (a.eval x' = .nilIface ∧ a.eval y' = .nilIface) ∧ ¬ (a.eval x' = .agg xs ∧ a.eval y' = .agg ys)) := by
      by_cases h1 : a.eval x' = .nilIface ∧ a.eval y' = .nilIface
      · exact .inl ⟨h1, trivial⟩
      · by_cases h2 : ∃ xs ys, a.eval x' = .agg xs ∧ a.eval y' = .agg ys
        · exact .inr (.inl h2)
        · exact .inr (.inr fun xs ys => ⟨h1, fun h => h2 ⟨xs, ys, h⟩⟩)
    rcases hcase with ⟨⟨h1, h2⟩, _⟩ | ⟨xs, ys, h1, h2⟩ | h0
    · rw [h1] at hx
      rw [h2] at hy
      have hc : (isConO x' || isConO y') = true := by
        exact eqF_con hx hy e ht
      rw [h1, h2]
      cases x' <;> cases y' <;> simp [isConO] at hc <;> cases op <;> simp at hop ⊢
    · rw [h1] at hx
      rw [h2] at hy
      have hg : Pg.eqGuardType Pg.depth t = false := eqF_agg hx hy e ht
      rw [h1, h2]
      cases op <;> simp at hop ⊢ <;> simp [run_program, hg]
    · generalize hvx : a.eval x' = vx at *
      generalize hvy : a.eval y' = vy at *
      cases op <;> simp at hop ⊢ <;> (cases vx <;> (try simp) <;> cases vy <;> (try simp) <;> (first | exact absurd ⟨rfl, rfl⟩ (h0 #[] #[]).1 | exact absurd ⟨rfl, rfl⟩ (h0 _ _).2))

def notPlain : Value → Bool
  | .int .. => false
  | .string _ => false
  | .float .. => false
  | .complex .. => false
  | _ => true
theorem eqF_plain {k : EqK} {x y : V} {x' : Value} {b : Bool} (hx : VR ι x x') (e : eqF k x y = some b) : notPlain x' = true := by
  unfold eqF at e
  split at e <;> first | (cases hx; rfl) | (cases e; done)
theorem ok_eqv {neg : Bool} {k : EqK} {x y : X} {x' y' : Operand} {t yt : TypeId} (hr : Rel ι h w) (ho : o.op = .binOp (cond neg .neq .eql) t x' y' yt) (ht : eqTy Pg t (isConO x' || isConO y') k = true)
    (hx : VR ι (x.ev st fr) (a.eval x')) (hy : VR ι (y.ev st fr) (a.eval y')) (hs : (cEqv neg k x y st fr h).safe) : OpOK Pg a o w ι h (cEqv neg k x y st fr h) := by
  unfold cEqv at hs ⊢
  obtain ⟨b, e, e1⟩ := onSome_safe hs
  rw [e1]
  have hg := eqGuard_ok (op := cond neg .neq .eql) hx hy e ht w
  have he := eqF_ok hx hy e ht 9998 w
  refine OpOK.pure hr (v' := .bool (cond neg (!b) b)) ?_ (.bool _)
  simp only [execOp, ho, Sem.run_bind, hg, Result.andThen_ok]
  have hb : (binOp (cond neg .neq .eql) t (a.eval x') (a.eval y')).run Pg w = .ok (.bool (cond neg (!b) b)) w := by
    have hn := eqF_plain hx e
    generalize a.eval x' = vx at *
    generalize a.eval y' = vy at *
    have he' : (Op.equal t vx vy).run Pg w = .ok b w := he
    cases neg <;> simp only [cond_true, cond_false] <;> (cases vx <;> first | (cases hn; done) | (simp only [binOp, Sem.run_bind, he', Result.andThen_ok, Sem.run_pure]))
  simp [hb]
end
end Go.Am
namespace Go.Am
section
variable {Pg : Program} {a : Act} {o : Oper} {w : World} {ι : Io} {h : H} {st : St} {fr : Fr}

theorem ok_neg {k : IntKind} {x : X} {x' : Operand} {t : TypeId} (hr : Rel ι h w) (ho : o.op = .unOp .neg t x') (hx : VR ι (x.ev st fr) (a.eval x')) (hs : (cNeg k x st fr h).safe) : OpOK Pg a o w ι h (cNeg k x st fr h) := by
  unfold cNeg at hs ⊢
  obtain ⟨k1, n, hv, e⟩ := onInt_safe hs
  rw [e] at hs ⊢
  obtain ⟨h1, e⟩ := cond_safe hs
  rw [e]
  rw [kEq_iff] at h1
  subst h1
  rw [hv] at hx
  refine OpOK.pure hr (v' := .int k1 (k1.wrap (0 - n))) ?_ ?_
  · simp [execOp, ho, hx.int_inv, Op.unary, Op.intArith]
  · rw [wrapQ_eq, show Int.neg n = 0 - n from (Int.zero_sub n).symm]; exact .int _ _
theorem ok_not {x : X} {x' : Operand} {t : TypeId} (hr : Rel ι h w) (ho : o.op = .unOp .not t x') (hx : VR ι (x.ev st fr) (a.eval x')) (hs : (cNot x st fr h).safe) : OpOK Pg a o w ι h (cNot x st fr h) := by
  unfold cNot at hs ⊢
  obtain ⟨b, hv, e⟩ := onBool_safe hs
  rw [e]
  rw [hv] at hx
  refine OpOK.pure hr (v' := .bool (!b)) ?_ (.bool _)
  simp [execOp, ho, hx.bool_inv, Op.unary]
theorem ok_xorU {k : IntKind} {x : X} {x' : Operand} {t : TypeId} (hr : Rel ι h w) (ho : o.op = .unOp .xor t x') (hx : VR ι (x.ev st fr) (a.eval x')) (hs : (cXorU k x st fr h).safe) : OpOK Pg a o w ι h (cXorU k x st fr h) := by
  unfold cXorU at hs ⊢
  obtain ⟨k1, n, hv, e⟩ := onInt_safe hs
  rw [e] at hs ⊢
  obtain ⟨h1, e⟩ := cond_safe hs
  rw [e]
  rw [kEq_iff] at h1
  subst h1
  rw [hv] at hx
  have hall : BitVec.ofInt k1.bits (if k1.signed then -1 else k1.max) = BitVec.allOnes k1.bits := by cases k1 <;> rfl
  refine OpOK.pure hr (v' := .int k1 (k1.wrap ((BitVec.allOnes k1.bits ^^^ BitVec.ofInt k1.bits n).toNat))) ?_ ?_
  · simp [execOp, ho, hx.int_inv, Op.unary, Op.intBits, hall]
  · rw [wrapQ_eq]
    have : Nat.sub (Nat.sub (pow2 k1) 1) (modN k1 n) = (BitVec.allOnes k1.bits ^^^ BitVec.ofInt k1.bits n).toNat := by
      rw [BitVec.allOnes_xor, BitVec.toNat_not, modN_eq, pow2_nat]; rfl
    rw [this]
    exact .int _ _
theorem ok_i2i {k : IntKind} {x : X} {x' : Operand} {s t : TypeId} {ds : TypeDesc} (hr : Rel ι h w) (ho : o.op = .convert s t x') (hd : Pg.underlying s = some ds) (ht : Pg.underlying t = some (.int k)) (hx : VR ι (x.ev st fr) (a.eval x')) (hs : (cI2i k x st fr h).safe) :
    OpOK Pg a o w ι h (cI2i k x st fr h) := by
  unfold cI2i at hs ⊢
  obtain ⟨k1, n, hv, e⟩ := onInt_safe hs
  rw [e]
  rw [hv] at hx
  refine OpOK.pure hr (v' := .int k (k.wrap n)) ?_ (by rw [wrapQ_eq]; exact .int _ _)
  simp [execOp, ho, hx.int_inv, convert, run_underlying hd, run_underlying ht, Conv.intToInt]
theorem ok_i2s {x : X} {x' : Operand} {s t : TypeId} {ds : TypeDesc} (hr : Rel ι h w) (ho : o.op = .convert s t x') (hd : Pg.underlying s = some ds) (ht : Pg.underlying t = some .string) (hx : VR ι (x.ev st fr) (a.eval x')) (hs : (cI2s x st fr h).safe) :
    OpOK Pg a o w ι h (cI2s x st fr h) := by
  unfold cI2s at hs ⊢
  obtain ⟨k1, n, hv, e⟩ := onInt_safe hs
  rw [e]
  rw [hv] at hx
  refine OpOK.pure hr (v' := .string (Utf8.encode n)) ?_ (.str _)
  simp [execOp, ho, hx.int_inv, convert, run_underlying hd, run_underlying ht, Conv.intToString]
/-- a conversion from text to text -/
theorem ok_s2s {x : X} {x' : Operand} {s t : TypeId} (hr : Rel ι h w) (ho : o.op = .convert s t x') (hd : Pg.underlying s = some .string) (ht : Pg.underlying t = some .string) (hx : VR ι (x.ev st fr) (a.eval x')) (hs : (cS2s x st fr h).safe) :
    OpOK Pg a o w ι h (cS2s x st fr h) := by
  unfold cS2s at hs ⊢
  obtain ⟨l, hv, e⟩ := onStr_safe hs
  rw [e]
  rw [hv] at hx
  obtain ⟨u, hu, rfl⟩ := hx.str_inv
  refine OpOK.pure hr (v' := .string u) ?_ (.str _)
  simp [execOp, ho, hu, convert, run_underlying hd, run_underlying ht]
theorem ok_mkif {x : X} {x' : Operand} {t : TypeId} {d : TypeDesc} (hr : Rel ι h w) (ho : o.op = .makeInterface t x') (hd : Pg.underlying t = some d) (hi : ifaceD d = false) (hx : VR ι (x.ev st fr) (a.eval x')) :
    OpOK Pg a o w ι h (cMkif t x st fr h) := by
  refine OpOK.pure hr (v' := .iface t (a.eval x')) ?_ (.iface hx)
  cases d <;> simp [ifaceD] at hi <;> simp [execOp, ho, Instr.makeInterface, run_underlying hd]
theorem ok_mkfn {f : P} {xs cs : List X} {p c : Array Operand} (hr : Rel ι h w) (ho : o.op = .makeFunc (.func f.num) p c) (hx : VRs ι (evs xs st fr) (p.toList.map a.eval)) (hc : VRs ι (evs cs st fr) (c.toList.map a.eval)) :
    OpOK Pg a o w ι h (cMkfn f xs cs st fr h) := by
  refine OpOK.pure hr (v' := .func (.func f.num) (p.map a.eval) (c.map a.eval)) ?_ (.fn (by have := hx.1; simpa using this) (by have := hc.1; simpa using this) (fun i v v' e1 e2 => hx.2 i v v' e1 (by simpa using e2)) (fun i v v' e1 e2 => hc.2 i v v' e1 (by simpa using e2)))
  simp [execOp, ho, Instr.makeFunc]
theorem ok_nck {x : X} {x' : Operand} (hr : Rel ι h w) (ho : o.op = .nilCheck x') (hx : VR ι (x.ev st fr) (a.eval x')) (hs : (cNck x st fr h).safe) : OpOK Pg a o w ι h (cNck x st fr h) := by
  unfold cNck at hs ⊢
  rcases onNck_safe hs with ⟨b, off, hv, e⟩ | ⟨f, p, c, hv, e⟩
  · rw [e]
    rw [hv] at hx
    obtain ⟨l, hl, hy⟩ := hx.ptr_inv
    refine OpOK.pure hr (v' := .pointer (some ⟨l.g, l.d + off, none⟩)) ?_ (.ptr hl)
    simp [execOp, ho, hy]
  · rw [e]
    rw [hv] at hx
    obtain ⟨p', c', hy, _⟩ := hx.fn_inv
    refine OpOK.pure hr (v' := .func (.func f.num) p' c') ?_ (by rw [← hy]; exact hx)
    simp [execOp, ho, hy]

theorem ok_fa {off : Nat} {x : X} {x' : Operand} {t i : Nat} {fs : Array Field} {f : Field} (hr : Rel ι h w) (ho : o.op = .fieldAddr t x' i) (ht : Pg.underlying t = some (.struct fs)) (hf : fs[i]? = some f) (ho' : f.offset = off) (hz : Pg.cellsOf f.type ≠ 0)
    (hx : VR ι (x.ev st fr) (a.eval x')) (hs : (cFa off x st fr h).safe) : OpOK Pg a o w ι h (cFa off x st fr h) := by
  unfold cFa at hs ⊢
  obtain ⟨b, q, hv, e⟩ := onPtr_safe hs
  rw [e]
  rw [hv] at hx
  obtain ⟨l, hl, hy⟩ := hx.ptr_inv
  refine OpOK.pure hr (v' := .pointer (some ⟨l.g, l.d + (q + off), none⟩)) ?_ (.ptr hl)
  simp [execOp, ho, Instr.fieldAt, run_underlying ht, hf, hy, Instr.sureAddr, fieldPlace, cellsOf_sizeOf hz, hz, Addr.add_lit, ho', Nat.add_assoc]

theorem run_part_plain {t : TypeId} {d : TypeDesc} (ht : Pg.underlying t = some d) (ha : aggD d = false) {cs : Array Value} {off : Nat} {v : Value} (hv : cs[off]? = some v) (w : World) :
    (part t cs off).run Pg w = .ok v w := by
  have hagg : (isAgg t).run Pg w = .ok false w := by
    simp only [isAgg, Sem.run_bind, run_underlying ht, Result.andThen_ok]
    cases d <;> simp [aggD] at ha ⊢
  simp [part, hagg, hv]
theorem run_part_agg {t n : Nat} {d : TypeDesc} {i : TypeInfo} (ht : Pg.underlying t = some d) (ha : aggD d = true) (hi : Pg.info? t = some i) (hn : i.size = n) (cs : Array Value) (off : Nat) (w : World) :
    (part t cs off).run Pg w = .ok (.agg (cs.extract off (off + n))) w := by
  have hagg : (isAgg t).run Pg w = .ok true w := by
    simp only [isAgg, Sem.run_bind, run_underlying ht, Result.andThen_ok]
    cases d <;> simp [aggD] at ha ⊢
  simp [part, hagg, sizeOf, typeInfo, hi, hn]
theorem CRs.extract {cs : List V} {cs' : Array Value} (hc : CRs ι cs cs'.toList) (off n : Nat) : CRs ι ((cs.drop off).take n) (cs'.extract off (off + n)).toList := by
  have : (cs'.extract off (off + n)).toList = (cs'.toList.drop off).take n := by
    rw [Array.toList_extract]; simp [List.extract_eq_take_drop]
  rw [this]
  exact (hc.drop off).take n

theorem ok_fld {off : Nat} {x : X} {x' : Operand} {t i : Nat} {fs : Array Field} {f : Field} {d : TypeDesc} (hr : Rel ι h w) (ho : o.op = .field t x' i) (ht : Pg.underlying t = some (.struct fs)) (hf : fs[i]? = some f) (ho' : f.offset = off)
    (hd : Pg.underlying f.type = some d) (ha : aggD d = false) (hx : VR ι (x.ev st fr) (a.eval x')) (hs : (cFld off x st fr h).safe) : OpOK Pg a o w ι h (cFld off x st fr h) := by
  unfold cFld at hs ⊢
  obtain ⟨cs, hv, e⟩ := onAgg_safe hs
  rw [e] at hs ⊢
  obtain ⟨v, hn, e⟩ := onSome_safe hs
  rw [e]
  rw [hv] at hx
  obtain ⟨cs', hy, hc⟩ := hx.agg_cells
  rw [nth_eq] at hn
  obtain ⟨v', h1, h2⟩ := hc.1.get hn
  refine OpOK.pure hr (v' := v') ?_ h2
  simp [execOp, ho, Instr.field, run_underlying ht, hf, hy, asAgg, ho', run_part_plain hd ha (show cs'[off]? = some v' by simpa using h1)]
theorem ok_fldn {off n : Nat} {x : X} {x' : Operand} {t i : Nat} {fs : Array Field} {f : Field} {d : TypeDesc} {inf : TypeInfo} (hr : Rel ι h w) (ho : o.op = .field t x' i) (ht : Pg.underlying t = some (.struct fs)) (hf : fs[i]? = some f) (ho' : f.offset = off)
    (hd : Pg.underlying f.type = some d) (ha : aggD d = true) (hi : Pg.info? f.type = some inf) (hn : inf.size = n) (hx : VR ι (x.ev st fr) (a.eval x')) (hs : (cFldn off n x st fr h).safe) :
    OpOK Pg a o w ι h (cFldn off n x st fr h) := by
  unfold cFldn at hs ⊢
  obtain ⟨cs, hv, e⟩ := onAgg_safe hs
  rw [e] at hs ⊢
  obtain ⟨r, hr', e⟩ := onSome_safe hs
  rw [e]
  rw [hv] at hx
  obtain ⟨cs', hy, hc⟩ := hx.agg_cells
  rw [dropN_eq] at hr'
  obtain ⟨_, rfl⟩ := takeN_some hr'
  refine OpOK.pure hr (v' := .agg (cs'.extract off (off + n))) ?_ (VR.of_agg (hc.extract off n))
  simp [execOp, ho, Instr.field, run_underlying ht, hf, hy, asAgg, ho', run_part_agg hd ha hi hn]

theorem nat_inv {v : V} {v' : Value} {n : Nat} (hx : VR ι v v') (e : v.nat = some n) : ∃ k, v' = .int k n := by
  unfold V.nat at e
  split at e
  · obtain rfl := Option.some.inj e; exact ⟨_, hx.int_inv⟩
  · cases e

theorem ok_ixa {es : Nat} {x i : X} {x' i' : Operand} {t e' : TypeId} {inf : TypeInfo} (hr : Rel ι h w) (ho : o.op = .indexAddr t x' i') (ht : Pg.underlying t = some (.slice e')) (hi : Pg.info? e' = some inf) (he : inf.size = es)
    (hx : VR ι (x.ev st fr) (a.eval x')) (hj : VR ι (i.ev st fr) (a.eval i')) (hs : (cIxa es x i st fr h).safe) : OpOK Pg a o w ι h (cIxa es x i st fr h) := by
  unfold cIxa at hs ⊢
  rcases onSl_safe hs with ⟨_, e⟩ | ⟨b, q, n, c, hv, e⟩
  · rw [e] at hs; exact hs.elim
  rw [e] at hs ⊢
  obtain ⟨j, hn, e⟩ := onSome_safe hs
  rw [e] at hs ⊢
  obtain ⟨hlt, e⟩ := cond_safe hs
  rw [e]
  rw [natBlt_iff] at hlt
  rw [hv] at hx
  obtain ⟨l, ad, cap, hl, hy, h1, h2, h3, h4⟩ := hx.sl_inv
  obtain ⟨k, hk⟩ := nat_inv hj hn
  have had : ad = ⟨l.g, l.d + q, none⟩ := h4.resolve_right (by omega)
  refine OpOK.pure hr (v' := .pointer (some ⟨l.g, l.d + (q + j * es), none⟩)) ?_ (.ptr hl)
  simp [execOp, ho, Instr.indexAt, run_underlying ht, hy, hk, asIntOf, hlt, sizeOf, typeInfo, hi, he, had, Addr.add_lit, Nat.add_assoc]
theorem ok_ixarr {es n : Nat} {x i : X} {x' i' : Operand} {t e' : TypeId} {inf : TypeInfo} (hr : Rel ι h w) (ho : o.op = .indexAddr t x' i') (ht : Pg.underlying t = some (.array n e')) (hi : Pg.info? e' = some inf) (he : inf.size = es)
    (hx : VR ι (x.ev st fr) (a.eval x')) (hj : VR ι (i.ev st fr) (a.eval i')) (hs : (cIxarr es n x i st fr h).safe) : OpOK Pg a o w ι h (cIxarr es n x i st fr h) := by
  unfold cIxarr at hs ⊢
  obtain ⟨b, q, hv, e⟩ := onPtr_safe hs
  rw [e] at hs ⊢
  obtain ⟨j, hn, e⟩ := onSome_safe hs
  rw [e] at hs ⊢
  obtain ⟨hlt, e⟩ := cond_safe hs
  rw [e]
  rw [natBlt_iff] at hlt
  rw [hv] at hx
  obtain ⟨l, hl, hy⟩ := hx.ptr_inv
  obtain ⟨k, hk⟩ := nat_inv hj hn
  refine OpOK.pure hr (v' := .pointer (some ⟨l.g, l.d + (q + j * es), none⟩)) ?_ (.ptr hl)
  simp [execOp, ho, Instr.indexAt, run_underlying ht, hy, hk, asIntOf, hlt, sizeOf, typeInfo, hi, he, Instr.sureAddr, Addr.add_lit, Nat.add_assoc]
theorem ok_ixs {x i : X} {x' i' : Operand} {t : TypeId} (hr : Rel ι h w) (ho : o.op = .index t x' i') (ht : Pg.underlying t = some .string)
    (hx : VR ι (x.ev st fr) (a.eval x')) (hj : VR ι (i.ev st fr) (a.eval i')) (hs : (cIxs x i st fr h).safe) : OpOK Pg a o w ι h (cIxs x i st fr h) := by
  unfold cIxs at hs ⊢
  obtain ⟨s, hv, e⟩ := onStr_safe hs
  rw [e] at hs ⊢
  obtain ⟨j, hn, e⟩ := onSome_safe hs
  rw [e] at hs ⊢
  obtain ⟨c, hc, e⟩ := onSome_safe hs
  rw [e]
  rw [hv] at hx
  obtain ⟨u, hy, rfl⟩ := hx.str_inv
  obtain ⟨k, hk⟩ := nat_inv hj hn
  rw [nth_eq, List.getElem?_map] at hc
  obtain ⟨b, hb, rfl⟩ := Option.map_eq_some_iff.1 hc
  have hb' : u[j]? = some b := by
    have h1 : j < u.data.toList.length := (List.getElem?_eq_some_iff.1 hb).1
    have h2 : j < u.size := by simpa using h1
    have h3 : u.data.toList[j] = b := (List.getElem?_eq_some_iff.1 hb).2
    rw [getElem?_pos u j h2]
    congr 1
  refine OpOK.pure hr (v' := .int .u8 b.toNat) ?_ (.int _ _)
  simp [execOp, ho, Instr.index, run_underlying ht, hy, hk, asIntOf, hb']
theorem ok_ixag {es n : Nat} {x i : X} {x' i' : Operand} {t e' : TypeId} {inf : TypeInfo} {d : TypeDesc} {agg : Bool} (hr : Rel ι h w) (ho : o.op = .index t x' i') (ht : Pg.underlying t = some (.array n e')) (hi : Pg.info? e' = some inf) (he : inf.size = es)
    (hd : Pg.underlying e' = some d) (ha : aggD d = agg)
    (hx : VR ι (x.ev st fr) (a.eval x')) (hj : VR ι (i.ev st fr) (a.eval i')) (hs : (cIxag es n agg x i st fr h).safe) : OpOK Pg a o w ι h (cIxag es n agg x i st fr h) := by
  unfold cIxag at hs ⊢
  obtain ⟨cs, hv, e⟩ := onAgg_safe hs
  rw [e] at hs ⊢
  obtain ⟨j, hn, e⟩ := onSome_safe hs
  rw [e] at hs ⊢
  obtain ⟨hlt, e⟩ := cond_safe hs
  rw [e] at hs ⊢
  rw [natBlt_iff] at hlt
  rw [hv] at hx
  obtain ⟨cs', hy, hc⟩ := hx.agg_cells
  obtain ⟨k, hk⟩ := nat_inv hj hn
  cases agg with
  | true =>
    rw [cond_true] at hs ⊢
    obtain ⟨r, hr', e⟩ := onSome_safe hs
    rw [e]
    rw [dropN_eq] at hr'
    obtain ⟨_, rfl⟩ := takeN_some hr'
    refine OpOK.pure hr (v' := .agg (cs'.extract (j * es) (j * es + es))) ?_ (VR.of_agg (hc.extract _ _))
    simp [execOp, ho, Instr.index, run_underlying ht, hy, hk, asIntOf, hlt, sizeOf, typeInfo, hi, he, run_part_agg hd ha hi he]
  | false =>
    rw [cond_false] at hs ⊢
    obtain ⟨v, hv', e⟩ := onSome_safe hs
    rw [e]
    rw [nth_eq] at hv'
    obtain ⟨v', h1, h2⟩ := hc.1.get hv'
    refine OpOK.pure hr (v' := v') ?_ h2
    simp [execOp, ho, Instr.index, run_underlying ht, hy, hk, asIntOf, hlt, sizeOf, typeInfo, hi, he, run_part_plain hd ha (show cs'[j * es]? = some v' by simpa using h1)]
theorem ok_ext {i : Nat} {x : X} {x' : Operand} (hr : Rel ι h w) (ho : o.op = .extract x' i) (hx : VR ι (x.ev st fr) (a.eval x')) (hs : (cExt i x st fr h).safe) : OpOK Pg a o w ι h (cExt i x st fr h) := by
  unfold cExt at hs ⊢
  obtain ⟨vs, hv, e⟩ := onTup_safe hs
  rw [e] at hs ⊢
  obtain ⟨v, hn, e⟩ := onSome_safe hs
  rw [e]
  rw [hv] at hx
  rw [nth_eq] at hn
  generalize hy : a.eval x' = vx at hx
  cases hx with
  | tup e1 r =>
    rename_i vs'
    have hi : i < vs'.size := by rw [← e1]; exact (List.getElem?_eq_some_iff.1 hn).1
    refine OpOK.pure hr (v' := vs'[i]) ?_ (r i v _ hn (by simp [hi]))
    simp [execOp, ho, Instr.extract, hy, hi]
theorem ok_asr {t xt : TypeId} {ok : Bool} {z : V} {zv : Value} {x : X} {x' : Operand} {d : TypeDesc} {inf : TypeInfo} (hr : Rel ι h w) (ho : o.op = .typeAssert x' xt t ok) (hd : Pg.underlying t = some d) (hi : ifaceD d = false)
    (hinf : Pg.info? t = some inf) (hz : inf.zero = some zv) (hzv : conOk zv z = true) (hx : VR ι (x.ev st fr) (a.eval x')) (hs : (cAsr t ok z x st fr h).safe) : OpOK Pg a o w ι h (cAsr t ok z x st fr h) := by
  have hzr : VR ι z zv := conOk_ok ι hzv
  have hzrun : (zeroValue t).run Pg w = .ok zv w := by simp [zeroValue, typeInfo, hinf, hz]
  unfold cAsr at hs ⊢
  rcases onIf_safe hs with ⟨hv, e⟩ | ⟨t', u, hv, e⟩
  · rw [e] at hs ⊢
    obtain ⟨h1, e⟩ := cond_safe hs
    rw [e]
    subst h1
    rw [hv] at hx
    refine OpOK.pure hr (v' := .tuple #[zv, .bool false]) ?_ (.tup rfl (fun i v v' e1 e2 => ?_))
    · cases d <;> simp [ifaceD] at hi <;> simp [execOp, ho, Instr.typeAssert, run_underlying hd, hx.niliface_inv, hzrun]
    · have := (VRs.cons hzr (VRs.cons (.bool false) (VRs.nil ι))).2 i v v' e1 (by simpa using e2); exact this
  · rw [e] at hs ⊢
    rw [hv] at hx
    obtain ⟨u', hy, hu⟩ := hx.iface_inv
    cases hq : Nat.beq t' t with
    | true =>
      simp only [hq, cond_true] at hs ⊢
      rw [natBeq_iff] at hq
      subst hq
      cases ok with
      | true =>
        refine OpOK.pure hr (v' := .tuple #[u', .bool true]) ?_ (.tup rfl (fun i v v' e1 e2 => ?_))
        · cases d <;> simp [ifaceD] at hi <;> simp [execOp, ho, Instr.typeAssert, run_underlying hd, hy]
        · have := (VRs.cons hu (VRs.cons (.bool true) (VRs.nil ι))).2 i v v' e1 (by simpa using e2); exact this
      | false =>
        refine OpOK.pure hr (v' := u') ?_ hu
        cases d <;> simp [ifaceD] at hi <;> simp [execOp, ho, Instr.typeAssert, run_underlying hd, hy]
    | false =>
      simp only [hq, cond_false] at hs ⊢
      obtain ⟨h1, e⟩ := cond_safe hs
      rw [e]
      subst h1
      have hne : t' ≠ t := fun h' => by rw [(natBeq_iff _ _).2 h'] at hq; cases hq
      refine OpOK.pure hr (v' := .tuple #[zv, .bool false]) ?_ (.tup rfl (fun i v v' e1 e2 => ?_))
      · cases d <;> simp [ifaceD] at hi <;> simp [execOp, ho, Instr.typeAssert, run_underlying hd, hy, hne, hzrun]
      · have := (VRs.cons hzr (VRs.cons (.bool false) (VRs.nil ι))).2 i v v' e1 (by simpa using e2); exact this
end
end Go.Am
