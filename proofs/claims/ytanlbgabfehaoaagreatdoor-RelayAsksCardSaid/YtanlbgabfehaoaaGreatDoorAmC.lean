/- The machine's operations, second part. -/
import Derived.Test.YtanlbgabfehaoaaGreatDoorAmB
import Derived.Great.BuildSlice
import Derived.Laws.BytesString
import Derived.Laws.MakeOwn
import Derived.Lib.ConvBytes
import Derived.MapKept
namespace Go.Am
section
variable {Pg : Program} {a : Act} {o : Oper} {w : World} {ι : Io} {h : H} {st : St} {fr : Fr}

/-- optional operands -/
def OR (ι : Io) (st : St) (fr : Fr) (a : Act) : Option Operand → Option X → Prop
  | none, none => True
  | some o, some x => VR ι (x.ev st fr) (a.eval o)
  | _, _ => False
theorem okO_ok {n : Nm} (e : ER n ι st fr a) : ∀ {o : Option Operand} {x : Option X}, okO n o x = true → OR ι st fr a o x
  | none, none, _ => trivial
  | some _, some _, h => okX_ok e h

theorem run_sliceBound {k : IntKind} {i y : Nat} {c : BoundsCode} (hi : i ≤ y) (w : World) : (Instr.sliceBound (.int k i) y c).run Pg w = .ok i w := by
  simp [Instr.sliceBound, asIntOf, hi]
theorem bnd_inv {x : Option X} {o' : Option Operand} {d y i : Nat} (hx : OR ι st fr a o' x) (e : bnd x d y st fr = some i) : (x = none ∧ o' = none ∧ i = d) ∨ (x.isSome = true ∧ ∃ u k, o' = some u ∧ a.eval u = .int k i ∧ i ≤ y) := by
  cases x with
  | none => cases o' with
    | none => exact .inl ⟨rfl, rfl, (Option.some.inj (show some d = some i from e)).symm⟩
    | some => exact hx.elim
  | some x => cases o' with
    | none => exact hx.elim
    | some u =>
      right
      have e : Option.casesOn (motive := fun _ => Option Nat) (x.ev st fr).nat none (fun i => cond (Nat.ble i y) (some i) none) = some i := e
      cases hn : (x.ev st fr).nat with
      | none => rw [hn] at e; cases e
      | some j =>
        rw [hn] at e
        have e : cond (Nat.ble j y) (some j) none = some i := e
        cases hb : Nat.ble j y with
        | false => rw [hb] at e; cases e
        | true =>
          rw [hb] at e
          obtain rfl := Option.some.inj (show some j = some i from e)
          obtain ⟨k, hk⟩ := nat_inv hx hn
          exact ⟨rfl, u, k, rfl, hk, (natBle_iff _ _).1 hb⟩

theorem run_bounds {isS : Bool} {len cap room m hh l : Nat} {lo hi mx : Option X} {lo' hi' mx' : Option Operand} (hlo : OR ι st fr a lo' lo) (hhi : OR ι st fr a hi' hi) (hmx : OR ι st fr a mx' mx) (hroom : room ≤ cap) (hlen : len ≤ cap)
    (e1 : bnd mx room room st fr = some m) (e2 : bnd hi len m st fr = some hh) (e3 : bnd lo 0 hh st fr = some l) (hmh : mx.isSome = true → hi.isSome = true) (w : World) :
    ∃ m', (Instr.sliceBounds isS len cap (lo'.map a.eval) (hi'.map a.eval) (mx'.map a.eval)).run Pg w = .ok (l, hh, m') w ∧ (mx = none → m' = cap) ∧ (mx.isSome = true → m' = m) ∧ m' ≤ cap ∧ l ≤ hh ∧ hh ≤ m' := by
  have hl : l ≤ hh := by
    rcases bnd_inv hlo e3 with ⟨_, _, rfl⟩ | ⟨_, _, _, _, _, h⟩
    · omega
    · exact h
  rcases bnd_inv hmx e1 with ⟨rfl, rfl, rfl⟩ | ⟨hm1, u, k, rfl, hk, hle⟩
  · rcases bnd_inv hhi e2 with ⟨rfl, rfl, rfl⟩ | ⟨_, u, k, rfl, hk, hle⟩
    · refine ⟨cap, ?_, fun _ => rfl, fun h => by simp at h, Nat.le_refl _, hl, hlen⟩
      rcases bnd_inv hlo e3 with ⟨_, rfl, rfl⟩ | ⟨_, u, k, rfl, hk, h⟩
      · simp [Instr.sliceBounds]
      · simp [Instr.sliceBounds, hk, run_sliceBound h]
    · refine ⟨cap, ?_, fun _ => rfl, fun h => by simp at h, Nat.le_refl _, hl, by omega⟩
      rcases bnd_inv hlo e3 with ⟨_, rfl, rfl⟩ | ⟨_, u, k, rfl, hk3, h⟩
      · simp [Instr.sliceBounds, hk, run_sliceBound (Pg := Pg) (show hh ≤ cap by omega)]
      · simp [Instr.sliceBounds, hk, hk3, run_sliceBound h, run_sliceBound (Pg := Pg) (show hh ≤ cap by omega)]
  · have hhs := hmh hm1
    rcases bnd_inv hhi e2 with ⟨rfl, _, _⟩ | ⟨_, u2, k2, rfl, hk2, hle2⟩
    · simp at hhs
    · refine ⟨m, ?_, (fun h => by rw [h] at hm1; cases hm1), fun _ => rfl, by omega, hl, hle2⟩
      rcases bnd_inv hlo e3 with ⟨_, rfl, rfl⟩ | ⟨_, u, k, rfl, hk3, h⟩
      · simp [Instr.sliceBounds, hk, hk2, run_sliceBound (Pg := Pg) (show m ≤ cap by omega), run_sliceBound (Pg := Pg) hle2]
      · simp [Instr.sliceBounds, hk, hk2, hk3, run_sliceBound h, run_sliceBound (Pg := Pg) (show m ≤ cap by omega), run_sliceBound (Pg := Pg) hle2]

theorem ok_sls {x : X} {lo hi : Option X} {x' : Operand} {lo' hi' : Option Operand} {t : TypeId} (hr : Rel ι h w) (ho : o.op = .slice t x' lo' hi' none) (ht : Pg.underlying t = some .string)
    (hx : VR ι (x.ev st fr) (a.eval x')) (hlo : OR ι st fr a lo' lo) (hhi : OR ι st fr a hi' hi) (hs : (cSls x lo hi st fr h).safe) : OpOK Pg a o w ι h (cSls x lo hi st fr h) := by
  unfold cSls at hs ⊢
  obtain ⟨s, hv, e⟩ := onStr_safe hs
  rw [e] at hs ⊢
  obtain ⟨hh, e2, e⟩ := onSome_safe hs
  rw [e] at hs ⊢
  obtain ⟨l, e3, e⟩ := onSome_safe hs
  rw [e] at hs ⊢
  obtain ⟨r, e4, e⟩ := onSome_safe hs
  rw [e]
  rw [hv] at hx
  obtain ⟨u, hu, rfl⟩ := hx.str_inv
  rw [len_eq] at e2
  have hlen : (u.data.toList.map (·.toNat)).length = u.size := by simp
  rw [hlen] at e2
  obtain ⟨m', hrun, _, _, _, hl, hle⟩ := run_bounds (isS := false) (mx := none) (mx' := none) (Pg := Pg) (room := u.size) (m := u.size) hlo hhi trivial (Nat.le_refl _) (Nat.le_refl _) rfl e2 e3 (by simp) w
  rw [dropN_eq] at e4
  obtain ⟨_, rfl⟩ := takeN_some e4
  refine OpOK.pure hr (v' := .string (u.extract l hh)) ?_ ?_
  · simp at hrun
    simp [execOp, ho, Instr.sliceAt, run_underlying ht, Instr.slice, hu, hrun]
  · have : (u.extract l hh).data.toList = (u.data.toList.drop l).take (hh - l) := by
      simp [ByteArray.data_extract, List.extract_eq_take_drop]
    rw [← List.map_drop, ← List.map_take, show Nat.sub hh l = hh - l from rfl, ← this]
    exact .str _

/-- what stands behind a slice of a slice -/
theorem slice_res {es : Nat} {b : P} {q n m hh l : Nat} {c : Cp} {lo hi mx : Option X} {lo' hi' mx' : Option Operand} {ad : Addr} {cap room : Nat} {lc : Loc} {isS : Bool} (hl : ι b = some lc) (hn : n ≤ cap) (hcm : cap ≤ maxLen) (hc : capOk lc q cap c)
    (had : ad = ⟨lc.g, lc.d + q, none⟩ ∨ cap = 0) (hes : ∀ es', c = .fr es' → es = es') (hroom : room ≤ cap)
    (hlo : OR ι st fr a lo' lo) (hhi : OR ι st fr a hi' hi) (hmx : OR ι st fr a mx' mx)
    (e1 : bnd mx room room st fr = some m) (e2 : bnd hi n m st fr = some hh) (e3 : bnd lo 0 hh st fr = some l) (hmh : mx.isSome = true → hi.isSome = true) (w : World) :
    ∃ m', (Instr.sliceBounds isS n cap (lo'.map a.eval) (hi'.map a.eval) (mx'.map a.eval)).run Pg w = .ok (l, hh, m') w ∧
      VR ι (.sl b (Nat.add q (Nat.mul l es)) (Nat.sub hh l) (capAft mx c m l)) (.slice (some (if m' = l then ad else ad.add (l * es))) (hh - l) (m' - l)) := by
  obtain ⟨m', hrun, h1, h2, h3, h4, h5⟩ := run_bounds (isS := isS) (Pg := Pg) hlo hhi hmx hroom hn e1 e2 e3 hmh w
  refine ⟨m', hrun, .sl hl (by show hh - l ≤ m' - l; omega) (by omega) ?_ ?_⟩
  · cases mx with
    | some x => have := h2 rfl; subst this; rfl
    | none =>
      have := h1 rfl
      subst this
      cases c with
      | ex k => have hc : m' = k := hc; show m' - l = k - l; rw [hc]
      | fr es' =>
        have := hes es' rfl
        subst this
        have hc : lc.d + q + m' * es = lc.tot := hc
        show lc.d + (q + l * es) + (m' - l) * es = lc.tot
        have hle : l ≤ m' := by omega
        have : m' * es = l * es + (m' - l) * es := by rw [← Nat.add_mul]; congr 1; omega
        omega
  · by_cases hml : m' = l
    · right; omega
    · left
      rw [if_neg hml]
      rcases had with rfl | h0
      · rw [Addr.add_lit]; show (⟨_, lc.d + q + l * es, none⟩ : Addr) = ⟨lc.g, lc.d + (q + l * es), none⟩; rw [Nat.add_assoc]
      · omega

theorem roomOf_le {es : Nat} {b : P} {q cap room : Nat} {c : Cp} {lc : Loc} (hr : Rel ι h w) (hz : es ≠ 0) (hl : ι b = some lc) (hc : capOk lc q cap c) (e : roomOf es b q c h = some room) : room ≤ cap ∧ ∀ es', c = .fr es' → es = es' := by
  cases c with
  | ex k =>
    have hc : cap = k := hc
    have e : some k = some room := e
    obtain rfl := Option.some.inj e
    exact ⟨by omega, fun es' h' => by cases h'⟩
  | fr es' =>
    have e1 : cond (Nat.beq es es') (Option.casesOn (motive := fun _ => Option Nat) (h.cells b) none (fun cs => some (Nat.div (Nat.sub (Am.len cs) q) es))) none = some room := e
    cases hb : Nat.beq es es' with
    | false => rw [hb] at e1; cases e1
    | true =>
      rw [hb] at e1
      have e2 : Option.casesOn (motive := fun _ => Option Nat) (h.cells b) none (fun cs => some (Nat.div (Nat.sub (Am.len cs) q) es)) = some room := e1
      clear e1 e
      rw [natBeq_iff] at hb
      subst hb
      cases hcs : h.cells b with
      | none => rw [hcs] at e2; cases e2
      | some cs =>
        rw [hcs] at e2
        have e3 : some (Nat.div (Nat.sub (Am.len cs) q) es) = some room := e2
        obtain rfl := Option.some.inj e3
        refine ⟨?_, fun es' h' => by cases h'; rfl⟩
        obtain ⟨ro, hb⟩ := H.cells_some hcs
        obtain ⟨l', cur, fz, hl', hg, hs, hd, _⟩ := hr.row hb
        rw [hl] at hl'
        obtain rfl := Option.some.inj hl'
        have hc : lc.d + q + cap * es = lc.tot := hc
        rw [len_eq]
        show (cs.length - q) / es ≤ cap
        have : cs.length - q ≤ cap * es := by omega
        exact (Nat.div_le_of_le_mul (by rw [Nat.mul_comm]; exact this))

theorem ok_slc {es : Nat} {x : X} {lo hi mx : Option X} {x' : Operand} {lo' hi' mx' : Option Operand} {t e' : TypeId} {inf : TypeInfo} (hr : Rel ι h w) (ho : o.op = .slice t x' lo' hi' mx') (ht : Pg.underlying t = some (.slice e')) (hi2 : Pg.info? e' = some inf) (he : inf.size = es) (hz : es ≠ 0)
    (hmh : mx.isSome = true → hi.isSome = true) (hx : VR ι (x.ev st fr) (a.eval x')) (hlo : OR ι st fr a lo' lo) (hhi : OR ι st fr a hi' hi) (hmx : OR ι st fr a mx' mx) (hs : (cSlc es x lo hi mx st fr h).safe) :
    OpOK Pg a o w ι h (cSlc es x lo hi mx st fr h) := by
  have hsz : (sizeOf e').run Pg w = .ok es w := by simp [sizeOf, typeInfo, hi2, he]
  unfold cSlc at hs ⊢
  rcases onSl_safe hs with ⟨hv, e⟩ | ⟨b, q, n, c, hv, e⟩
  · rw [e] at hs ⊢
    obtain ⟨m, e1, e⟩ := onSome_safe hs
    rw [e] at hs ⊢
    obtain ⟨hh, e2, e⟩ := onSome_safe hs
    rw [e] at hs ⊢
    obtain ⟨l, e3, e⟩ := onSome_safe hs
    rw [e]
    rw [hv] at hx
    have hm0 : m = 0 := by rcases bnd_inv hmx e1 with ⟨_, _, rfl⟩ | ⟨_, _, _, _, _, h⟩ <;> omega
    have hh0 : hh = 0 := by rcases bnd_inv hhi e2 with ⟨_, _, rfl⟩ | ⟨_, _, _, _, _, h⟩ <;> omega
    have hl0 : l = 0 := by rcases bnd_inv hlo e3 with ⟨_, _, rfl⟩ | ⟨_, _, _, _, _, h⟩ <;> omega
    subst hm0; subst hh0; subst hl0
    obtain ⟨m', hrun, _, _, hm, _, _⟩ := run_bounds (isS := true) (Pg := Pg) (cap := 0) hlo hhi hmx (Nat.le_refl 0) (Nat.le_refl 0) e1 e2 e3 hmh w
    obtain rfl : m' = 0 := by omega
    refine OpOK.pure hr (v' := .slice none 0 0) ?_ .nilsl
    simp [execOp, ho, Instr.sliceAt, run_underlying ht, Instr.slice, hx.nilsl_inv, hrun, hsz]
  · rw [e] at hs ⊢
    unfold sliceOf at hs ⊢
    obtain ⟨room, e0, e⟩ := onSome_safe hs
    rw [e] at hs ⊢
    obtain ⟨m, e1, e⟩ := onSome_safe hs
    rw [e] at hs ⊢
    obtain ⟨hh, e2, e⟩ := onSome_safe hs
    rw [e] at hs ⊢
    obtain ⟨l, e3, e⟩ := onSome_safe hs
    rw [e]
    rw [hv] at hx
    obtain ⟨lc, ad, cap, hl, hy, hn, hcm, hc, had⟩ := hx.sl_inv
    obtain ⟨hroom, hes⟩ := roomOf_le hr hz hl hc e0
    obtain ⟨m', hrun, hres⟩ := slice_res (isS := true) (Pg := Pg) hl hn hcm hc had hes hroom hlo hhi hmx e1 e2 e3 hmh w
    refine OpOK.pure hr (v' := _) ?_ hres
    simp [execOp, ho, Instr.sliceAt, run_underlying ht, Instr.slice, hy, hrun, hsz]
    split <;> simp
theorem ok_slarr {es n : Nat} {x : X} {lo hi mx : Option X} {x' : Operand} {lo' hi' mx' : Option Operand} {t e' : TypeId} {inf : TypeInfo} (hr : Rel ι h w) (ho : o.op = .slice t x' lo' hi' mx') (ht : Pg.underlying t = some (.array n e')) (hi2 : Pg.info? e' = some inf) (he : inf.size = es) (hz : es ≠ 0) (hnm : n ≤ maxLen)
    (hmh : mx.isSome = true → hi.isSome = true) (hx : VR ι (x.ev st fr) (a.eval x')) (hlo : OR ι st fr a lo' lo) (hhi : OR ι st fr a hi' hi) (hmx : OR ι st fr a mx' mx) (hs : (cSlarr es n x lo hi mx st fr h).safe) :
    OpOK Pg a o w ι h (cSlarr es n x lo hi mx st fr h) := by
  have hsz : (sizeOf e').run Pg w = .ok es w := by simp [sizeOf, typeInfo, hi2, he]
  unfold cSlarr at hs ⊢
  obtain ⟨b, q, hv, e⟩ := onPtr_safe hs
  rw [e] at hs ⊢
  unfold sliceOf at hs ⊢
  obtain ⟨room, e0, e⟩ := onSome_safe hs
  rw [e] at hs ⊢
  obtain ⟨m, e1, e⟩ := onSome_safe hs
  rw [e] at hs ⊢
  obtain ⟨hh, e2, e⟩ := onSome_safe hs
  rw [e] at hs ⊢
  obtain ⟨l, e3, e⟩ := onSome_safe hs
  rw [e]
  rw [hv] at hx
  obtain ⟨lc, hl, hy⟩ := hx.ptr_inv
  obtain ⟨hroom, hes⟩ := roomOf_le (cap := n) (c := .ex n) hr hz hl rfl e0
  obtain ⟨m', hrun, hres⟩ := slice_res (isS := false) (Pg := Pg) (cap := n) (c := .ex n) hl (Nat.le_refl n) hnm rfl (.inl rfl) hes hroom hlo hhi hmx e1 e2 e3 hmh w
  refine OpOK.pure hr (v' := _) ?_ hres
  simp [execOp, ho, Instr.sliceAt, run_underlying ht, hy, Instr.sureAddr, hrun, hsz]

theorem ok_lenc {n : Nat} {x' : Operand} {t : TypeId} (hr : Rel ι h w) (ho : o.op = .call { callee := .builtin .len, args := #[x'], argTypes := #[t] }) (ht : (∃ e, Pg.underlying t = some (.array n e)) ∨ ∃ p e, Pg.underlying t = some (.pointer p) ∧ Pg.underlying p = some (.array n e)) : OpOK Pg a o w ι h (cLenc n st fr h) := by
  refine OpOK.pure hr (v' := .int .i64 n) ?_ (.int _ _)
  rcases ht with ⟨e, ht⟩ | ⟨p, e, ht, hp⟩
  · simp [execOp, ho, resolve, invoke, builtin, Builtin.len_, run_underlying ht, goInt]
  · simp [execOp, ho, resolve, invoke, builtin, Builtin.len_, run_underlying ht, run_underlying hp, goInt]
theorem ok_lenS {x : X} {x' : Operand} {t : TypeId} (hr : Rel ι h w) (ho : o.op = .call { callee := .builtin .len, args := #[x'], argTypes := #[t] }) (ht : Pg.underlying t = some .string)
    (hx : VR ι (x.ev st fr) (a.eval x')) (hs : (cLenS x st fr h).safe) : OpOK Pg a o w ι h (cLenS x st fr h) := by
  unfold cLenS at hs ⊢
  obtain ⟨s, hv, e⟩ := onStr_safe hs
  rw [e]
  rw [hv] at hx
  obtain ⟨u, hu, rfl⟩ := hx.str_inv
  rw [len_eq]
  refine OpOK.pure hr (v' := .int .i64 u.size) ?_ (by have : (u.data.toList.map (·.toNat)).length = u.size := by simp
                                                      rw [this]; exact .int _ _)
  simp [execOp, ho, resolve, invoke, builtin, Builtin.len_, run_underlying ht, hu, goInt]
theorem ok_lenL {x : X} {x' : Operand} {t e' : TypeId} (hr : Rel ι h w) (ho : o.op = .call { callee := .builtin .len, args := #[x'], argTypes := #[t] }) (ht : Pg.underlying t = some (.slice e'))
    (hx : VR ι (x.ev st fr) (a.eval x')) (hs : (cLenL x st fr h).safe) : OpOK Pg a o w ι h (cLenL x st fr h) := by
  unfold cLenL at hs ⊢
  rcases onSl_safe hs with ⟨hv, e⟩ | ⟨b, q, n, c, hv, e⟩ <;> rw [e] at hs ⊢ <;> rw [hv] at hx
  · refine OpOK.pure hr (v' := .int .i64 0) ?_ (.int _ _)
    simp [execOp, ho, resolve, invoke, builtin, Builtin.len_, run_underlying ht, hx.nilsl_inv, goInt]
  · obtain ⟨lc, ad, cap, hl, hy, _⟩ := hx.sl_inv
    refine OpOK.pure hr (v' := .int .i64 n) ?_ (.int _ _)
    simp [execOp, ho, resolve, invoke, builtin, Builtin.len_, run_underlying ht, hy, goInt]
theorem ok_lenM {x : X} {x' : Operand} {t k' e' : TypeId} (hr : Rel ι h w) (ho : o.op = .call { callee := .builtin .len, args := #[x'], argTypes := #[t] }) (ht : Pg.underlying t = some (.map k' e'))
    (hx : VR ι (x.ev st fr) (a.eval x')) (hs : (cLenM x st fr h).safe) : OpOK Pg a o w ι h (cLenM x st fr h) := by
  unfold cLenM at hs ⊢
  rcases onMapN_safe hs with ⟨hv, e⟩ | ⟨b, hv, e⟩ <;> rw [e] at hs ⊢ <;> rw [hv] at hx
  · refine OpOK.pure hr (v' := .int .i64 0) ?_ (.int _ _)
    simp [execOp, ho, resolve, invoke, builtin, Builtin.len_, run_underlying ht, hx.nilmap_inv, goInt]
  · obtain ⟨es, clock, hb, e⟩ := onMapB_safe hs
    rw [e]
    obtain ⟨lc, hl, hy⟩ := hx.map_inv
    obtain ⟨l', ob, hl', hg, hbr⟩ := hr.blk b _ hb rfl
    rw [hl] at hl'
    obtain rfl := Option.some.inj hl'
    cases hbr with
    | map h0 h1 h2 =>
      rename_i entries
      rw [len_eq, h1]
      refine OpOK.pure hr (v' := .int .i64 entries.size) ?_ (.int _ _)
      simp [execOp, ho, resolve, invoke, builtin, Builtin.len_, run_underlying ht, hy, goInt, getObj, Sem.run, hg]
end
end Go.Am
namespace Go.Am
section
variable {Pg : Program} {a : Act} {o : Oper} {w : World} {ι : Io} {h : H} {st : St} {fr : Fr}

/-- the parts of a literal, as the program has them and as the machine has them -/
def okParts (n : Nm) (place : Nat → Option (Nat × Nat)) : List (Nat × Operand) → List (Nat × Nat × X) → Bool
  | [], [] => true
  | (i, x') :: ps', (off, size, x) :: ps => decide (place i = some (off, size)) && okX n x' x && okParts n place ps' ps
  | _, _ => false

theorem CRs.put {vs cs r : List V} {vs' : List Value} {cells : Array Value} {off : Nat} (hv : CRs ι vs vs') (hc : CRs ι cs cells.toList) (hp : putAt off vs cs = some r) :
    CRs ι r ((vs'.zipIdx 0).foldl (fun cs (x : Value × Nat) => cs.setIfInBounds (off + x.2) x.1) cells).toList ∧ off + vs'.length ≤ cells.size := by
  obtain ⟨g1, g2⟩ := Great.foldl_set off vs' 0 cells
  obtain ⟨hle, _⟩ := putAt_some hp
  have hl1 := hv.1.1
  have hl2 := hc.1.1
  simp at hl2
  simp only [Nat.add_zero] at g2
  have hb : off + vs'.length ≤ cells.size := by omega
  refine ⟨⟨⟨(putAt_length hp).trans (hl2.trans g1.symm), ?_⟩, ?_⟩, hb⟩
  · intro i v v' h1 h2
    rw [putAt_get hp] at h1
    rw [Array.getElem?_toList, g2] at h2
    split at h1
    · rw [if_pos (by omega)] at h2
      exact hv.1.2 _ v v' h1 h2
    · rw [if_neg (by omega)] at h2
      exact hc.1.2 i v v' h1 (by simpa using h2)
  · intro v' hv'
    obtain ⟨i, hi, rfl⟩ := List.getElem_of_mem hv'
    have h2 := List.getElem?_eq_getElem hi
    rw [Array.getElem?_toList, g2] at h2
    split at h2
    · exact hv.2 _ (List.mem_of_getElem? h2)
    · exact hc.2 _ (List.mem_of_getElem? (by simpa using h2))

theorem fill_ok {n : Nm} {place : Nat → Option (Nat × Nat)} (e : ER n ι st fr a) : ∀ {ps' : List (Nat × Operand)} {ps : List (Nat × Nat × X)} {cs r : List V} {cells : Array Value}, okParts n place ps' ps = true → CRs ι cs cells.toList → Am.fill ps st fr cs = some r →
    ∃ cells', Instr.fill place cells (ps'.map fun p => (p.1, a.eval p.2)) = some cells' ∧ CRs ι r cells'.toList
  | [], [], cs, r, cells, _, hc, h => by
    obtain rfl := Option.some.inj (show some cs = some r from h)
    exact ⟨cells, rfl, hc⟩
  | (i, x') :: ps', (off, size, x) :: ps, cs, r, cells, hp, hc, h => by
    simp only [okParts, Bool.and_eq_true, decide_eq_true_eq] at hp
    obtain ⟨⟨hpl, hx⟩, hp⟩ := hp
    have h1 : Option.casesOn (motive := fun _ => Option (List V)) (x.ev st fr).flat1 none (fun vs => Option.casesOn (motive := fun _ => Option (List V)) (fill1 size off vs cs) none (Am.fill ps st fr)) = some r := h
    cases hf : (x.ev st fr).flat1 with
    | none => rw [hf] at h1; cases h1
    | some vs =>
      rw [hf] at h1
      have h2 : Option.casesOn (motive := fun _ => Option (List V)) (fill1 size off vs cs) none (Am.fill ps st fr) = some r := h1
      cases h3 : fill1 size off vs cs with
      | none => rw [h3] at h2; cases h2
      | some cs1 =>
        rw [h3] at h2
        have h4 : cond (Nat.beq (Am.len vs) size) (putAt off vs cs) none = some cs1 := h3
        cases hb : Nat.beq (Am.len vs) size with
        | false => rw [hb] at h4; cases h4
        | true =>
          rw [hb] at h4
          rw [natBeq_iff, len_eq] at hb
          have hv := (okX_ok e hx).flat1 hf
          obtain ⟨hc1, hle⟩ := CRs.put hv hc (show putAt off vs cs = some cs1 from h4)
          obtain ⟨cells', e1, e2⟩ := fill_ok e hp hc1 h2
          refine ⟨cells', ?_, e2⟩
          have hl1 := hv.1.1
          simp at hl1 hle
          rw [List.map_cons]
          unfold Instr.fill
          simp only [hpl]
          rw [if_neg (by simp; omega)]
          rw [← e1]
          congr 1
          rw [← Array.foldl_toList, Array.toList_zipIdx]
  | [], _ :: _, _, _, _, hp, _, _ => by simp [okParts] at hp
  | _ :: _, [], _, _, _, hp, _, _ => by simp [okParts] at hp

theorem ok_build {n : Nm} {z : List V} {ps : List (Nat × Nat × X)} {t : TypeId} {ps' : Array (Nat × Operand)} {place : Nat → Option (Nat × Nat)} {zv : Value} (hr : Rel ι h w) (e : ER n ι st fr a) (ho : o.op = .build t ps') (hz : con1s zv.cells.toList z = true)
    (hp : okParts n place ps'.toList ps = true) (hb : ∀ parts, Pg.built t parts = Instr.fill place zv.cells parts) (hs : (cBuild z ps st fr h).safe) : OpOK Pg a o w ι h (cBuild z ps st fr h) := by
  unfold cBuild at hs ⊢
  obtain ⟨cs, hf, e1⟩ := onSome_safe hs
  rw [e1]
  obtain ⟨cells', e2, hc⟩ := fill_ok e hp (con1s_ok ι hz) hf
  refine OpOK.pure hr (v' := .agg cells') ?_ (VR.of_agg hc)
  have := run_build (P := Pg) w t (ps'.map fun p => (p.1, a.eval p.2)) cells' (by rw [hb, Array.toList_map]; exact e2)
  simp [execOp, ho, this]

theorem ok_bslice {n : Nm} {es m : Nat} {z : List V} {ps : List (Nat × Nat × X)} {t e' : TypeId} {ps' : Array (Nat × Operand)} {ie : TypeInfo} {zv : Value} (hr : Rel ι h w) (e : ER n ι st fr a) (ho : o.op = .buildSlice t m ps')
    (ht : Pg.underlying t = some (.slice e')) (hi : Pg.info? e' = some ie) (hes : ie.size = es) (hzv : ie.zero = some zv) (hsm : m * es ≤ 16777216) (hmm : m ≤ maxLen)
    (hz : con1s ((Array.range (m * es)).map (zv.cells[· % zv.cells.size]!)).toList z = true) (hp : okParts n (fun i => some (i * es, es)) ps'.toList ps = true) (hs : (cBslice es m z ps st fr h).safe) : OpOK Pg a o w ι h (cBslice es m z ps st fr h) := by
  unfold cBslice at hs ⊢
  obtain ⟨cs, hf, e1⟩ := onSome_safe hs
  rw [e1]
  obtain ⟨cells', e2, hc⟩ := fill_ok e hp (con1s_ok ι hz) hf
  have hst := Step.row (w := w) hr hc (w.alloc (.cells cells' e')) rfl rfl rfl rfl
  refine OpOK.value (v' := .slice (some ⟨w.heap.size, 0, none⟩) m m) ?_ (.sl (Io.add_same _ _ _) (Nat.le_refl _) hmm rfl (.inl rfl)) hst
  have h24 : ¬ m * es > 2 ^ 24 := by omega
  by_cases h0 : m * es = 0
  · rw [h0] at e2
    simp [Array.range_zero'] at e2
    simp [execOp, ho, Instr.buildSlice, run_underlying ht, sizeOf, typeInfo, zeroValue, hi, hzv, hes, h0, newRow, Array.range_zero', e2]
  · have := run_buildSlice (P := Pg) w t e' m (ps'.map fun p => (p.1, a.eval p.2)) cells' ie zv ht hi hzv (by rw [hes]; exact h24) (by rw [hes]; exact h0) (by rw [Array.toList_map, hes]; exact e2)
    simp [execOp, ho, this]

theorem ok_mkmap {t : TypeId} {r : Option Operand} (hr : Rel ι h w) (ho : o.op = .makeMap t r) (hres : ∀ x, r = some x → (∃ k v, Pg.underlying t = some (.map k v)) ∧ ∃ k n, a.eval x = .int k n) : OpOK Pg a o w ι h (cMkmap st fr h) := by
  have hst : Step ι h w _ _ (w.alloc (.map #[] 0)) := Step.alloc (w := w) (x := .map [] 0) (l := ⟨w.heap.size, 0, 0, 0⟩) hr rfl rfl (.map rfl rfl (fun i e e' h1 => by simp at h1)) rfl rfl rfl rfl
  refine OpOK.value (v' := .map (some w.heap.size)) ?_ (.map (Io.add_same _ _ _)) hst
  cases r with
  | none => simp [execOp, ho, Instr.makeMap, newObj, Sem.run]
  | some x =>
    obtain ⟨⟨k, v, ht⟩, kk, m, hx⟩ := hres x rfl
    simp [execOp, ho, Instr.makeMap, newObj, run_underlying ht, hx, asInt, asIntOf, Sem.run]

theorem nat_inv' {ι : Io} {v : V} {v' : Value} {n : Nat} (hx : VR ι v v') (e : v.nat = some n) : ∃ k, v' = .int k n := nat_inv hx e

theorem madeCells_rel {z : Array Value} {zs : List V} {c es : Nat} (hz : con1s z.toList zs = true) (hsz : z.size = es) (hp : c * es ≠ 0) : CRs ι (rep c zs) (madeCells z (c * es)).toList := by
  have hc := con1s_ok ι hz
  have hl : zs.length = es := by have := hc.1.1; simp at this; omega
  have hes : 0 < es := Nat.pos_of_ne_zero (fun h0 => hp (by rw [h0]; simp))
  refine ⟨⟨by rw [rep_length, hl]; simp [size_madeCells], fun i v v' h1 h2 => ?_⟩, fun v' hv => ?_⟩
  · have hi : i < c * es := by have := (List.getElem?_eq_some_iff.1 h2).1; simpa [size_madeCells] using this
    rw [rep_get _ _ _ (by rw [hl]; exact hi), hl] at h1
    have hm : i % es < es := Nat.mod_lt _ hes
    simp [madeCells, hi] at h2
    rw [getElem!_pos z _ (by rw [hsz]; exact hm)] at h2
    subst h2
    exact hc.1.2 (i % es) v _ h1 (by simp [hsz, hm])
  · obtain ⟨i, hi, rfl⟩ := List.getElem_of_mem hv
    have hi' : i < c * es := by simpa [size_madeCells] using hi
    have hm : i % es < es := Nat.mod_lt _ hes
    simp only [madeCells, Array.getElem_toList, Array.getElem_map, Array.getElem_range]
    rw [hsz, getElem!_pos z _ (by rw [hsz]; exact hm)]
    exact hc.2 _ (by simp)

theorem ok_mksl {es bytes : Nat} {z : List V} {l c : X} {l' c' : Operand} {t e' : TypeId} {ie : TypeInfo} {zv : Value} (hr : Rel ι h w) (ho : o.op = .makeSlice t l' c') (ht : Pg.underlying t = some (.slice e')) (hi : Pg.info? e' = some ie) (hes : ie.size = es) (hby : ie.bytes = bytes) (hzv : ie.zero = some zv)
    (hzs : zv.cells.size = es) (hz : con1s zv.cells.toList z = true) (hl : VR ι (l.ev st fr) (a.eval l')) (hc : VR ι (c.ev st fr) (a.eval c')) (hs : (cMksl es bytes z l c st fr h).safe) : OpOK Pg a o w ι h (cMksl es bytes z l c st fr h) := by
  unfold cMksl at hs ⊢
  obtain ⟨ln, e1, e⟩ := onSome_safe hs
  rw [e] at hs ⊢
  obtain ⟨cn, e2, e⟩ := onSome_safe hs
  rw [e] at hs ⊢
  obtain ⟨b1, e⟩ := cond_safe hs
  rw [e] at hs ⊢
  obtain ⟨b2, e⟩ := cond_safe hs
  rw [e] at hs ⊢
  obtain ⟨b3, e⟩ := cond_safe hs
  rw [e]
  rw [natBle_iff] at b1 b2 b3
  have b2 : cn * bytes ≤ 140737488355328 := b2
  obtain ⟨kl, hl'⟩ := nat_inv hl e1
  obtain ⟨kc, hc'⟩ := nat_inv hc e2
  have hrun := run_make (P := Pg) w t e' ie zv ht hi hzv kl kc ln cn (by omega) (by omega) (by rw [hby, Nat.mul_comm] at *; omega) (by omega)
  simp only [Int.toNat_natCast, hes] at hrun
  have hcells : CRs ι (rep cn z) (madeCells zv.cells (cn * es)).toList := by
    by_cases h0 : cn * es = 0
    · have : rep cn z = [] := by
        apply List.eq_nil_of_length_eq_zero
        rw [rep_length]
        have := (con1s_ok ι hz).1.1
        simp at this
        rw [this, hzs, h0]
      rw [this, h0]
      simp [madeCells, Array.range_zero']
      exact ⟨VRs.nil ι, by simp⟩
    · exact madeCells_rel hz hzs h0
  have hst := Step.row (w := w) hr hcells (w.alloc (.cells (madeCells zv.cells (cn * es)) e')) rfl rfl rfl rfl
  refine OpOK.value (v' := .slice (some ⟨w.heap.size, 0, none⟩) ln cn) ?_ (.sl (Io.add_same _ _ _) b1 (by simp only [maxLen]; omega) rfl (.inl rfl)) hst
  simp [execOp, ho, hl', hc', hrun]
end
end Go.Am
namespace Go.Am
section
variable {Pg : Program} {a : Act} {o : Oper} {w : World} {ι : Io} {h : H} {st : St} {fr : Fr}

theorem bytesV_eq (l : List Nat) : bytesV l = l.map (fun n => V.int .u8 (Int.ofNat n)) := mapL_eq _ _
theorem bytesV_rel (s : ByteArray) : CRs ι (bytesV (s.data.toList.map (·.toNat))) (s.data.map fun b => Value.int .u8 b.toNat).toList := by
  rw [bytesV_eq]
  refine ⟨⟨by simp, fun i v v' h1 h2 => ?_⟩, fun v' hv => ?_⟩
  · simp only [List.map_map, List.getElem?_map] at h1
    simp only [Array.toList_map, List.getElem?_map] at h2
    cases hb : s.data.toList[i]? with
    | none => rw [hb] at h1; cases h1
    | some b =>
      rw [hb] at h1 h2
      obtain rfl := Option.some.inj h1
      obtain rfl := Option.some.inj h2
      exact .int _ _
  · simp only [Array.toList_map, List.mem_map] at hv
    obtain ⟨b, _, rfl⟩ := hv
    rfl

theorem ok_s2b {x : X} {x' : Operand} {s t e' : TypeId} (hr : Rel ι h w) (ho : o.op = .convert s t x') (hd : Pg.underlying s = some .string) (ht : Pg.underlying t = some (.slice e')) (he : Pg.underlying e' = some (.int .u8)) (hx : VR ι (x.ev st fr) (a.eval x')) (hs : (cS2b x st fr h).safe) :
    OpOK Pg a o w ι h (cS2b x st fr h) := by
  unfold cS2b at hs ⊢
  obtain ⟨l, hv, e⟩ := onStr_safe hs
  rw [e] at hs ⊢
  obtain ⟨hl, e⟩ := cond_safe hs
  rw [e]
  rw [hv] at hx
  obtain ⟨u, hu, rfl⟩ := hx.str_inv
  have hlen : (u.data.toList.map (·.toNat)).length = u.size := by simp
  rw [natBle_iff, len_eq, hlen] at hl
  rw [len_eq, hlen]
  have hge := grownCap_ge w u.size 0 e'
  have hcm := grownCap_le_maxLen w u.size 0 e' (by simp only [maxLen]; omega)
  have hsz : (Lib.bytesCells w e' u).size = grownCap w u.size 0 e' := by simp [Lib.bytesCells]; omega
  have hw : (Lib.bytesWorld w e' u).heap = w.heap.push (.cells (Lib.bytesCells w e' u) e' ((Lib.bytesCells w e' u).size, (Lib.bytesCells w e' u).size + 1)) := by
    apply Array.ext_getElem?
    intro i
    rw [Array.getElem?_push]
    split
    · subst_vars; exact Lib.bytesWorld_at_new w e' u
    · rcases Nat.lt_or_ge i w.heap.size with hi | hi
      · exact Lib.bytesWorld_at_old w e' u i hi
      · rw [Array.getElem?_eq_none (by rw [Lib.bytesWorld_size]; omega), Array.getElem?_eq_none hi]
  have hb := bytesV_rel (ι := ι) u
  have hst : Step ι h w (ι.add h.next ⟨w.heap.size, 0, (Lib.bytesCells w e' u).size, e'⟩) (h.alloc (.cells (bytesV (u.data.toList.map (·.toNat))) false)) (Lib.bytesWorld w e' u) := by
    refine Step.alloc (l := ⟨w.heap.size, 0, (Lib.bytesCells w e' u).size, e'⟩) hr rfl rfl (.cells rfl ?_ (fun _ j hj => ?_) ?_) hw rfl rfl rfl
    · have := hb.1.1; simp at this; show 0 + _ ≤ (Lib.bytesCells w e' u).size; rw [hsz, bytesV_eq]; simp; omega
    · have hj : 0 + j < (Lib.bytesCells w e' u).size := hj
      show ¬ ((Lib.bytesCells w e' u).size ≤ 0 + j ∧ _)
      omega
    · intro j v hj
      obtain ⟨v', h1, h2⟩ := hb.1.get hj
      refine ⟨v', ?_, h2.mono (Io.le_add hr _), hb.2 v' (List.mem_of_getElem? h1)⟩
      have hlt : j < u.size := by have := (List.getElem?_eq_some_iff.1 h1).1; simpa using this
      show (Lib.bytesCells w e' u)[0 + j]? = some v'
      rw [Nat.zero_add, Lib.bytesCells, Array.getElem?_append_left (by simpa using hlt)]
      simpa using h1
  refine OpOK.value (v' := .slice (some ⟨w.heap.size, 0, none⟩) u.size (grownCap w u.size 0 e')) ?_ (.sl (Io.add_same _ _ _) hge hcm (by show 0 + 0 + _ * 1 = (Lib.bytesCells w e' u).size; rw [hsz]; omega) (.inl rfl)) hst
  have := Lib.run_convert_string_bytes (P := Pg) w s t e' u hd ht he
  simp [execOp, ho, hu, this]

theorem toBytes_rel : ∀ {cs : List V} {vs : List Value} {l : List Nat}, CRs ι cs vs → toBytes cs = some l → vs = l.map (fun n => Value.int .u8 (Int.ofNat n)) ∧ ∀ n ∈ l, n < 256
  | [], vs, l, hc, h => by
    obtain rfl := Option.some.inj (show some [] = some l from h)
    rw [hc.1.nil_inv]
    exact ⟨rfl, by simp⟩
  | v :: cs, vs, l, hc, h => by
    obtain ⟨v', t, rfl, hv, ht⟩ := hc.1.inv
    have h1 : Option.casesOn (motive := fun _ => Option (List Nat)) v.byte none (fun m => Option.casesOn (motive := fun _ => Option (List Nat)) (toBytes cs) none (fun r => some (m :: r))) = some l := h
    cases hb : v.byte with
    | none => rw [hb] at h1; cases h1
    | some m =>
      rw [hb] at h1
      have h2 : Option.casesOn (motive := fun _ => Option (List Nat)) (toBytes cs) none (fun r => some (m :: r)) = some l := h1
      cases hr : toBytes cs with
      | none => rw [hr] at h2; cases h2
      | some r =>
        rw [hr] at h2
        obtain rfl := Option.some.inj (show some (m :: r) = some l from h2)
        obtain ⟨rfl, h4⟩ := toBytes_rel (vs := t) ⟨ht, fun v hv => hc.2 v (List.mem_cons_of_mem _ hv)⟩ hr
        unfold V.byte at hb
        split at hb
        · rename_i k
          have hb : cond (Nat.blt k 256) (some k) none = some m := hb
          cases hk : Nat.blt k 256 with
          | false => rw [hk] at hb; cases hb
          | true =>
            rw [hk] at hb
            obtain rfl := Option.some.inj (show some k = some m from hb)
            rw [natBlt_iff] at hk
            refine ⟨by rw [hv.int_inv]; rfl, fun n hn => ?_⟩
            rcases List.mem_cons.1 hn with rfl | hn
            · exact hk
            · exact h4 n hn
        · cases hb

theorem pushed (l : List Nat) (hl : ∀ n ∈ l, n < 256) : ∀ acc : ByteArray, (((l.map Int.ofNat).foldl (fun r n => r.push (UInt8.ofNat n.toNat)) acc).data.toList.map (·.toNat)) = acc.data.toList.map (·.toNat) ++ l := by
  induction l with
  | nil => intro acc; simp
  | cons n t ih =>
    intro acc
    rw [List.map_cons, List.foldl_cons, ih (fun m hm => hl m (List.mem_cons_of_mem _ hm))]
    have := hl n List.mem_cons_self
    simp [ByteArray.push, UInt8.toNat_ofNat', Nat.mod_eq_of_lt (show n < 2 ^ 8 by omega)]

theorem ok_b2s {x : X} {x' : Operand} {s t e' : TypeId} (hr : Rel ι h w) (ho : o.op = .convert s t x') (hd : Pg.underlying s = some (.slice e')) (he : Pg.underlying e' = some (.int .u8)) (ht : Pg.underlying t = some .string) (hx : VR ι (x.ev st fr) (a.eval x')) (hs : (cB2s x st fr h).safe) :
    OpOK Pg a o w ι h (cB2s x st fr h) := by
  unfold cB2s at hs ⊢
  rcases onSl_safe hs with ⟨hv, e⟩ | ⟨b, q, n, c, hv, e⟩
  · rw [e]
    rw [hv] at hx
    refine OpOK.pure hr (v' := .string .empty) ?_ (by have := VR.str (ι := ι) ByteArray.empty; simpa using this)
    simp [execOp, ho, hx.nilsl_inv, convert, run_underlying hd, run_underlying he, run_underlying ht, Conv.bytesToString]
  · rw [e] at hs ⊢
    obtain ⟨cs, hcs, e⟩ := onSome_safe hs
    rw [e] at hs ⊢
    obtain ⟨l, hl, e⟩ := onSome_safe hs
    rw [e]
    rw [hv] at hx
    obtain ⟨lc, ad, cap, hlc, hy, hn, hcm, hc, had⟩ := hx.sl_inv
    obtain ⟨vs, hcr, hvl, hcell⟩ := hr.read hcs hlc
    obtain ⟨rfl, h256⟩ := toBytes_rel hcr hl
    have hload : (loadCells ad n).run Pg w = .ok ((l.map Int.ofNat).map (Value.int .u8)).toArray w := by
      rcases had with rfl | h0
      · have := run_loadCells_list (P := Pg) w ⟨lc.g, lc.d + q, none⟩ (l.map (fun n => Value.int .u8 (Int.ofNat n))) (fun j v hj => by rw [Addr.add_lit]; exact hcell j v hj)
        rw [hvl] at this
        rw [this]
        simp
      · obtain rfl : n = 0 := by omega
        have : l = [] := by simpa using hvl
        subst this
        have := run_loadCells_list (P := Pg) w ad [] (by simp)
        simpa using this
    have hrun := run_bytesToString (P := Pg) w ad n cap (l.map Int.ofNat) hload
    refine OpOK.pure hr (v' := .string ((l.map Int.ofNat).foldl (fun r n => r.push (UInt8.ofNat n.toNat)) ByteArray.empty)) ?_ ?_
    · simp [execOp, ho, hy, convert, run_underlying hd, run_underlying he, run_underlying ht]
      simpa using congrArg (fun r => Result.andThen r fun a w' => Result.ok (Next.value a) w') hrun
    · have := pushed l h256 ByteArray.empty
      simp only [ByteArray.data_empty] at this
      simp at this
      have h2 := VR.str (ι := ι) ((l.map Int.ofNat).foldl (fun r n => r.push (UInt8.ofNat n.toNat)) ByteArray.empty)
      have h3 := pushed l h256 ByteArray.empty
      rw [h3] at h2
      simpa using h2

/-! what is appended or copied -/
structure Src (Pg : Program) (ι : Io) (w : World) (es m : Nat) (new : List V) (x' : Value) (news : List Value) : Prop where
  len : ∀ w' : World, (Builtin.lenOf x').run Pg w' = .ok m w'
  cells : ∀ w' : World, w'.heap = w.heap → (Builtin.firstCells es m x').run Pg w' = .ok news.toArray w'
  part : ∀ k, k ≤ m → ∀ w' : World, w'.heap = w.heap → (Builtin.firstCells es k x').run Pg w' = .ok (news.take (k * es)).toArray w'
  rel : CRs ι new news
  size : news.length = m * es

theorem cell_heap {w w' : World} (e : w'.heap = w.heap) (ad : Addr) : w'.cell? ad = w.cell? ad := by simp [World.cell?, e]
theorem run_cells_list {w w' : World} {es m len cap : Nat} {ad : Addr} {news : List Value} (e : w'.heap = w.heap) (hl : news.length = m * es) (hc : ∀ j u, news[j]? = some u → w.cell? (ad.add j) = some u) :
    (Builtin.firstCells es m (.slice (some ad) len cap)).run Pg w' = .ok news.toArray w' :=
  run_firstCells_some w' es m ad len cap news hl (fun j u hu => by rw [cell_heap e]; exact hc j u hu)

theorem onCells_ok {es : Nat} {v : V} {x' : Value} {f : Nat → List V → R} (hr : Rel ι h w) (hx : VR ι v x') (hs : (onCells es v h f).safe) : ∃ m new news, onCells es v h f = f m new ∧ Src Pg ι w es m new x' news := by
  unfold onCells at hs ⊢
  rcases onNew_safe hs with ⟨l, hv, e⟩ | ⟨hv, e⟩ | ⟨b, q, n, c, hv, e⟩
  · rw [e] at hs ⊢
    obtain ⟨he, e⟩ := cond_safe hs
    rw [e]
    rw [natBeq_iff] at he
    subst he
    rw [hv] at hx
    obtain ⟨u, rfl, rfl⟩ := hx.str_inv
    have hlen : (u.data.toList.map (·.toNat)).length = u.size := by simp
    have hall : ∀ k, k ≤ u.size → (Array.map (fun b : UInt8 => Value.int IntKind.u8 (b.toNat : Int)) (u.extract 0 k).data) = ((u.data.map fun b => Value.int .u8 b.toNat).toList.take (k * 1)).toArray := by
      intro k hk
      apply Array.ext'
      simp [ByteArray.data_extract, List.extract_eq_take_drop]
    refine ⟨_, _, (u.data.map fun b => Value.int .u8 b.toNat).toList, rfl, ⟨fun w' => ?_, fun w' _ => ?_, fun k hk w' _ => ?_, bytesV_rel u, ?_⟩⟩
    · rw [len_eq, hlen]; simp [Builtin.lenOf]
    · rw [len_eq, hlen]
      simp only [Builtin.firstCells, Sem.run_pure]
      rw [hall _ (Nat.le_refl _), List.take_of_length_le (by simp)]
    · simp only [Builtin.firstCells, Sem.run_pure]
      rw [hall _ (by rw [len_eq, hlen] at hk; exact hk)]
    · rw [len_eq, hlen]; simp
  · rw [e]
    rw [hv] at hx
    rw [hx.nilsl_inv]
    refine ⟨0, [], [], rfl, ⟨fun w' => by simp [Builtin.lenOf], fun w' _ => by simp [Builtin.firstCells], fun k hk w' _ => by simp [Builtin.firstCells], ⟨VRs.nil ι, by simp⟩, by simp⟩⟩
  · rw [e] at hs ⊢
    obtain ⟨cs, hcs, e⟩ := onSome_safe hs
    rw [e]
    rw [hv] at hx
    obtain ⟨lc, ad, cap, hlc, hy, hn, hcm, hc, had⟩ := hx.sl_inv
    subst hy
    obtain ⟨vs, hcr, hvl, hcell⟩ := hr.read hcs hlc
    have hvl : vs.length = n * es := hvl
    have hcell' : ∀ j u, vs[j]? = some u → w.cell? (ad.add j) = some u := by
      intro j u hu
      rcases had with rfl | h0
      · rw [Addr.add_lit]; exact hcell j u hu
      · obtain rfl : n = 0 := by omega
        have := (List.getElem?_eq_some_iff.1 hu).1
        omega
    refine ⟨n, cs, vs, rfl, ⟨fun w' => by simp [Builtin.lenOf], fun w' hw => run_cells_list hw hvl hcell', fun k hk w' hw => run_cells_list hw ?_ (fun j u hu => ?_), hcr, hvl⟩⟩
    · rw [List.length_take, hvl]; exact Nat.min_eq_left (Nat.mul_le_mul_right _ hk)
    · rw [List.getElem?_take] at hu
      split at hu
      · exact hcell' j u hu
      · cases hu

section
variable {t t2 ty e' : TypeId} {i : TypeInfo} {z : Value} {es : Nat} (ht : Pg.underlying t = some (.slice e')) (hi : Pg.info? e' = some i) (hz : i.zero = some z) (hes : i.size = es)
  (ht2 : Pg.underlying t2 = some .string ∨ ∃ e2, Pg.underlying t2 = some (.slice e2))
  {m : Nat} {new : List V} {x' : Value} {news : List Value} (hx : Src Pg ι w es m new x' news)
include ht hi hes ht2 hx
theorem app_room {ad : Addr} {sLen sCap : Nat} {w' : World} (hroom : sLen + m ≤ sCap) (hst : (storeCells (ad.add (sLen * es)) news).run Pg w = .ok () w') :
    (Builtin.append_ #[t, t2] ty #[.slice (some ad) sLen sCap, x']).run Pg w = .ok (.slice (some ad) (sLen + m) sCap) w' := by
  have h1 := hx.len w
  have h2 := hx.cells w rfl
  rcases ht2 with ht2 | ⟨e2, ht2⟩ <;> simp [Builtin.append_, run_underlying ht, run_underlying ht2, sizeOf, typeInfo, hi, hes, h1, hroom, h2, hst]
theorem app_none (h0 : m = 0) :
    (Builtin.append_ #[t, t2] ty #[.slice none 0 0, x']).run Pg w = .ok (.slice none 0 0) w := by
  have h1 := hx.len w
  have h2 := hx.cells w rfl
  subst h0
  rcases ht2 with ht2 | ⟨e2, ht2⟩ <;> simp [Builtin.append_, run_underlying ht, run_underlying ht2, sizeOf, typeInfo, hi, hes, h1, h2]
include hz in
theorem app_grow {base : Option Addr} {sLen sCap : Nat} {olds : List Value} (hold : ∀ w' : World, w'.heap = w.heap → (Builtin.firstCells es sLen (.slice base sLen sCap)).run Pg w' = .ok olds.toArray w')
    (hg : sCap < sLen + m) (h63 : sLen + m ≤ 9223372036854775807) (hfit : Builtin.nextslicecap (sLen + m) sCap * i.bytes ≤ 281474976710656) :
    (Builtin.append_ #[t, t2] ty #[.slice base sLen sCap, x']).run Pg w =
      .ok (.slice (some ⟨w.heap.size, 0, none⟩) (sLen + m) (grownCap w (sLen + m) sCap e'))
        (w.drew.alloc (.cells (olds.toArray ++ news.toArray ++ Builtin.zeroCells z.cells (grownCap w (sLen + m) sCap e' - (sLen + m))) e')) := by
  have h1 := hx.len w
  have h2 := hx.cells w.drew rfl
  have h3 := hold w.drew rfl
  have hn : ¬ (sLen + m ≤ sCap) := by omega
  have h63' : ¬ (9223372036854775807 < ((sLen : Int) + (m : Int))) := by omega
  have h48' : ¬ (281474976710656 < Builtin.nextslicecap (sLen + m) sCap * i.bytes) := by omega
  rcases ht2 with ht2 | ⟨e2, ht2⟩ <;> (simp [Builtin.append_, run_underlying ht, run_underlying ht2, sizeOf, typeInfo, zeroValue, hi, hz, hes, h1, hn, h63', h48', Question.forced, h3, h2, newRow, grownCap]) <;> congr 2 <;> apply Array.ext' <;> simp [List.append_assoc]
end

theorem H.read_of {h : H} {b : P} {cs old : List V} {ro : Bool} {o n : Nat} (hb : h.get b = some (.cells cs ro)) (e : takeN n (dropN o cs) = some old) : h.read b o n = some old := by
  unfold H.read H.cells
  rw [hb]
  exact e

theorem grow_step {es n m cap : Nat} {old new : List V} {olds news : List Value} {z : Value} {e' : TypeId} (hr : Rel ι h w) (ho : CRs ι old olds) (hn : CRs ι new news) (hlo : olds.length = n * es) (hln : news.length = m * es) (hzs : z.cells.size = es) (hneed : n + m ≤ maxLen) :
    Step ι h w (ι.add h.next ⟨w.heap.size, 0, (olds.toArray ++ news.toArray ++ Builtin.zeroCells z.cells (grownCap w (n + m) cap e' - (n + m))).size, e'⟩) (h.alloc (.cells (app old new) false))
      (w.drew.alloc (.cells (olds.toArray ++ news.toArray ++ Builtin.zeroCells z.cells (grownCap w (n + m) cap e' - (n + m))) e')) ∧
    VR (ι.add h.next ⟨w.heap.size, 0, (olds.toArray ++ news.toArray ++ Builtin.zeroCells z.cells (grownCap w (n + m) cap e' - (n + m))).size, e'⟩) (.sl h.next 0 (n + m) (.fr es)) (.slice (some ⟨w.heap.size, 0, none⟩) (n + m) (grownCap w (n + m) cap e')) := by
  have hge := grownCap_ge w (n + m) cap e'
  have hcm := grownCap_le_maxLen w (n + m) cap e' hneed
  have hsz : (olds.toArray ++ news.toArray ++ Builtin.zeroCells z.cells (grownCap w (n + m) cap e' - (n + m))).size = grownCap w (n + m) cap e' * es := by
    simp only [Array.size_append, List.size_toArray, size_zeroCells, hzs, hlo, hln, ← Nat.add_mul]
    congr 1
    omega
  have happ := ho.append hn
  rw [app_eq]
  refine ⟨?_, .sl (Io.add_same _ _ _) hge hcm ?_ (.inl rfl)⟩
  · refine Step.alloc hr rfl rfl (.cells rfl ?_ (fun _ j _ => by simp) ?_) rfl rfl rfl rfl
    · have := happ.1.1
      simp only [List.length_append] at this
      show 0 + (old ++ new).length ≤ _
      rw [List.length_append, this, hsz, hlo, hln, Nat.zero_add, ← Nat.add_mul]
      exact Nat.mul_le_mul_right _ hge
    · intro j v hj
      obtain ⟨v', h1, h2⟩ := happ.1.get hj
      refine ⟨v', ?_, h2.mono (Io.le_add hr _), happ.2 v' (List.mem_of_getElem? h1)⟩
      have hlt : j < (olds ++ news).length := (List.getElem?_eq_some_iff.1 h1).1
      show (olds.toArray ++ news.toArray ++ _)[0 + j]? = some v'
      rw [Nat.zero_add, Array.getElem?_append_left (by simpa using hlt)]
      simpa using h1
  · show 0 + 0 + _ * es = _
    rw [hsz]
    dsimp only
    omega

theorem ok_appe {es bytes : Nat} {s x : X} {s' x' : Operand} {t t2 e' : TypeId} {i : TypeInfo} {z : Value} (hr : Rel ι h w) (ho : o.op = .call { callee := .builtin .append, args := #[s', x'], argTypes := #[t, t2] })
    (ht : Pg.underlying t = some (.slice e')) (hi : Pg.info? e' = some i) (hz : i.zero = some z) (hes : i.size = es) (hby : i.bytes = bytes) (hzs : z.cells.size = es) (hes0 : es ≠ 0) (hb0 : bytes ≠ 0)
    (ht2 : Pg.underlying t2 = some .string ∨ ∃ e2, Pg.underlying t2 = some (.slice e2)) (hx1 : VR ι (s.ev st fr) (a.eval s')) (hx2 : VR ι (x.ev st fr) (a.eval x')) (hs : (cAppe es bytes s x st fr h).safe) : OpOK Pg a o w ι h (cAppe es bytes s x st fr h) := by
  unfold cAppe at hs ⊢
  obtain ⟨m, new, news, e, src⟩ := onCells_ok (Pg := Pg) hr hx2 hs
  rw [e] at hs ⊢
  clear e
  have run : ∀ {v : Value} {w' : World}, (Builtin.append_ #[t, t2] o.type #[a.eval s', a.eval x']).run Pg w = .ok v w' → (execOp a.eval o).run Pg w = .ok (.value v) w' := by
    intro v w' hrun
    simp [execOp, ho, resolve, invoke, builtin, hrun]
  have hbig : ∀ k, k * bytes ≤ 140737488355328 → k ≤ 9223372036854775807 := by
    intro k hk
    have : k * 1 ≤ k * bytes := Nat.mul_le_mul_left _ (Nat.pos_of_ne_zero hb0)
    omega
  rcases onSl_safe hs with ⟨hv, e⟩ | ⟨b, q, n, c, hv, e⟩
  · rw [e] at hs ⊢
    clear e
    rw [hv] at hx1
    have hnil := hx1.nilsl_inv
    unfold appNil at hs ⊢
    cases hm : Nat.beq m 0 with
    | true =>
      rw [natBeq_iff] at hm
      refine OpOK.pure hr (run ?_) .nilsl
      rw [hnil]
      exact app_none ht hi hes ht2 src hm
    | false =>
      rw [hm] at hs
      have hs : (cond (Nat.ble (Nat.mul m bytes) 140737488355328) (.ok (.sl h.next 0 m (.fr es)) (h.alloc (.cells new false))) .no : R).safe := hs
      obtain ⟨h1, e⟩ := cond_safe hs
      rw [natBle_iff] at h1
      have h1 : m * bytes ≤ 140737488355328 := h1
      show OpOK Pg a o w ι h (cond (Nat.ble (Nat.mul m bytes) 140737488355328) (.ok (.sl h.next 0 m (.fr es)) (h.alloc (.cells new false))) .no)
      rw [e]
      have hm0 : m ≠ 0 := fun h0 => by rw [h0] at hm; cases hm
      have hrun := app_grow (ty := o.type) ht hi hz hes ht2 src (base := none) (sLen := 0) (sCap := 0) (olds := []) (fun w' _ => by simp [Builtin.firstCells]) (by omega) (by have := hbig m h1; omega) (by rw [hby]; exact growslice_fits (by omega) (by simpa using h1))
      obtain ⟨g1, g2⟩ := grow_step (es := es) (n := 0) (m := m) (cap := 0) (z := z) (e' := e') hr (⟨VRs.nil ι, by simp⟩ : CRs ι [] []) src.rel (by simp) src.size hzs (by have := hbig m h1; simp only [maxLen]; omega)
      rw [show app [] new = new from by rw [app_eq]; rfl] at g1
      rw [Nat.zero_add] at g2 hrun g1
      exact OpOK.value (run (by rw [hnil]; exact hrun)) g2 g1
  · rw [e] at hs ⊢
    clear e
    rw [hv] at hx1
    obtain ⟨lc, ad, cap, hlc, hy, hn, hcm, hc, had⟩ := hx1.sl_inv
    unfold appTo at hs ⊢
    cases hm : Nat.beq m 0 with
    | true =>
      rw [natBeq_iff] at hm
      show OpOK Pg a o w ι h (.ok (.sl b q n c) h)
      have hnews : news = [] := List.eq_nil_of_length_eq_zero (by rw [src.size, hm]; simp)
      have hrun := app_room (ty := o.type) ht hi hes ht2 src (ad := ad) (sLen := n) (sCap := cap) (w' := w) (by omega) (by rw [hnews]; simp [storeCells])
      rw [hm] at hrun
      exact OpOK.pure hr (run (by rw [hy]; exact hrun)) (by rw [hy] at hx1; exact hx1)
    | false =>
      rw [hm] at hs
      have hm0 : m ≠ 0 := fun h0 => by rw [h0] at hm; cases hm
      simp only [cond_false] at hs ⊢
      obtain ⟨cs, ro, hb, e⟩ := onRow_safe hs
      rw [e] at hs ⊢
      clear e
      -- within the capacity
      have inn : ∀ c, n + m ≤ cap → capOk lc q cap c → (appIn es b q n m c new h).safe → OpOK Pg a o w ι h (appIn es b q n m c new h) := by
        intro c hroom hc hs
        unfold appIn at hs ⊢
        obtain ⟨h', hw, e⟩ := onSome_safe hs
        rw [e]
        obtain ⟨h1, h2⟩ := hr.write (P' := Pg) hw hlc src.rel
        have had' : ad = ⟨lc.g, lc.d + q, none⟩ := had.resolve_right (by omega)
        refine OpOK.value (run (v := .slice (some ad) (n + m) cap) ?_) (.sl hlc hroom hcm hc had) h2
        rw [hy]
        refine app_room ht hi hes ht2 src hroom ?_
        rw [had', Addr.add_lit, Nat.add_assoc]
        exact h1
      -- what is there already
      have olds : ∀ old, takeN (Nat.mul n es) (dropN q cs) = some old → ∃ olds, CRs ι old olds ∧ olds.length = n * es ∧ (∀ j u, olds[j]? = some u → w.cell? ⟨lc.g, lc.d + q + j, none⟩ = some u) ∧ ∀ w' : World, w'.heap = w.heap → (Builtin.firstCells es n (.slice (some ad) n cap)).run Pg w' = .ok olds.toArray w' := by
        intro old ht
        obtain ⟨vs, hcr, hvl, hcell⟩ := hr.read (H.read_of hb ht) hlc
        refine ⟨vs, hcr, hvl, hcell, fun w' hw => run_cells_list hw hvl (fun j u hu => ?_)⟩
        rcases had with rfl | h0
        · rw [Addr.add_lit]; exact hcell j u hu
        · have hn0 : n = 0 := by omega
          have := (List.getElem?_eq_some_iff.1 hu).1
          rw [hvl, hn0] at this
          simp at this
      -- a new row
      have gro : ∀ h', Step ι h w ι h' w → h'.next = h.next → cap < n + m → (grow es bytes q n m cs new h').safe → OpOK Pg a o w ι h (grow es bytes q n m cs new h') := by
        intro h' hst hnx hg hs
        unfold grow at hs ⊢
        obtain ⟨h1, e⟩ := cond_safe hs
        rw [e] at hs ⊢
        obtain ⟨old, ho1, e⟩ := onSome_safe hs
        rw [e]
        rw [natBle_iff] at h1
        have h1 : (n + m) * bytes ≤ 140737488355328 := h1
        obtain ⟨olds, o1, o2, _, o4⟩ := olds old ho1
        have hrun := app_grow (ty := o.type) ht hi hz hes ht2 src o4 hg (hbig _ h1) (by rw [hby]; exact growslice_fits hg h1)
        obtain ⟨g1, g2⟩ := grow_step (es := es) (n := n) (m := m) (cap := cap) (z := z) (e' := e') hst.rel o1 src.rel o2 src.size hzs (by have := hbig _ h1; simp only [maxLen]; omega)
        exact OpOK.value (run (by rw [hy]; exact hrun)) g2 (hst.trans g1)
      cases c with
      | ex k =>
        have hk : cap = k := hc
        subst hk
        have hs : (cond (Nat.ble (Nat.add n m) cap) (appIn es b q n m (.ex cap) new h) (grow es bytes q n m cs new h)).safe := hs
        show OpOK Pg a o w ι h (cond (Nat.ble (Nat.add n m) cap) (appIn es b q n m (.ex cap) new h) (grow es bytes q n m cs new h))
        cases hb2 : Nat.ble (Nat.add n m) cap with
        | true => rw [hb2] at hs; rw [natBle_iff] at hb2; exact inn _ hb2 rfl hs
        | false =>
          rw [hb2] at hs
          have : ¬ (n + m ≤ cap) := fun h' => by rw [show Nat.ble (Nat.add n m) cap = true from (natBle_iff _ _).2 h'] at hb2; cases hb2
          exact gro h (Step.refl hr) rfl (by omega) hs
      | fr es' =>
        have hs1 : (cond (Nat.beq es es') (cond (Nat.ble (Nat.add q (Nat.mul (Nat.add n m) es)) (Am.len cs)) (appIn es b q n m (.fr es) new h) (cond ro .no (grow es bytes q n m cs new (h.put b (.dead []))))) .no).safe := hs
        show OpOK Pg a o w ι h (cond (Nat.beq es es') (cond (Nat.ble (Nat.add q (Nat.mul (Nat.add n m) es)) (Am.len cs)) (appIn es b q n m (.fr es) new h) (cond ro .no (grow es bytes q n m cs new (h.put b (.dead []))))) .no)
        clear hs
        obtain ⟨h1, e⟩ := cond_safe hs1
        rw [e] at hs1 ⊢
        clear e
        rw [natBeq_iff] at h1
        subst h1
        have hcap : lc.d + q + cap * es = lc.tot := hc
        obtain ⟨l', cur, fz, hl', hg, hsz, hd, hfz, hval⟩ := hr.row hb
        rw [hlc] at hl'
        obtain rfl := Option.some.inj hl'
        cases hb2 : Nat.ble (Nat.add q (Nat.mul (Nat.add n m) es)) (Am.len cs) with
        | true =>
          rw [hb2] at hs1
          rw [natBle_iff, len_eq] at hb2
          have hb2 : q + (n + m) * es ≤ cs.length := hb2
          exact inn _ (Nat.le_of_mul_le_mul_right (show (n + m) * es ≤ cap * es by omega) (Nat.pos_of_ne_zero hes0)) hc hs1
        | false =>
          rw [hb2] at hs1
          have hs2 : (cond ro .no (grow es bytes q n m cs new (h.put b (.dead [])))).safe := hs1
          show OpOK Pg a o w ι h (cond ro .no (grow es bytes q n m cs new (h.put b (.dead []))))
          cases ro with
          | true => exact hs2.elim
          | false =>
            have hs : (grow es bytes q n m cs new (h.put b (.dead []))).safe := hs2
            clear hs1 hs2
            show OpOK Pg a o w ι h (grow es bytes q n m cs new (h.put b (.dead [])))
            by_cases hroom : n + m ≤ cap
            · unfold grow at hs ⊢
              obtain ⟨h1, e⟩ := cond_safe hs
              rw [e] at hs ⊢
              obtain ⟨old, ho1, e⟩ := onSome_safe hs
              rw [e]
              obtain ⟨olds, o1, o2, o3, _⟩ := olds old ho1
              have had' : ad = ⟨lc.g, lc.d + q, none⟩ := had.resolve_right (by omega)
              have hmul : (n + m) * es ≤ cap * es := Nat.mul_le_mul_right _ hroom
              have hnm : (n + m) * es = n * es + m * es := Nat.add_mul _ _ _
              have hnl := src.size
              obtain ⟨cur', c1, c2, c3⟩ := setCells_at lc.g lc.e fz news (lc.d + q + n * es) w cur hg (by omega)
              obtain ⟨s1, s2, s3, s4⟩ := setCells_size lc.g news (lc.d + q + n * es) w
              have hst := run_storeCells_cells (P := Pg) lc.g (lc.d + q + n * es) news 0 w (fun j hj => by rw [cell_at hg]; simp; omega)
                (fun j hj => by
                  rw [frozen_at hg]
                  have := hfz rfl (q + n * es + j) (by omega)
                  simp only [Nat.add_zero, Bool.and_eq_false_iff, decide_eq_false_iff_not]
                  omega) src.rel.2
              have hol := o1.1.1
              refine OpOK.value (run (v := .slice (some ad) (n + m) cap) ?_) (.sl (l := ⟨lc.g, lc.d + q, lc.tot, lc.e⟩) (Io.add_same _ _ _) hroom hcm ?_ (.inl had'))
                (Step.move hr hb rfl rfl hlc (m := ⟨lc.g, lc.d + q, lc.tot, lc.e⟩) rfl (o := .cells cur' lc.e fz) (.cells (by show cur'.size = lc.tot; omega) ?_ (fun _ j hj => ?_) ?_) c1 (fun g hg' => setCells_other lc.g g hg' _ _ _) s1 s2 s3 s4)
              · rw [hy]
                refine app_room ht hi hes ht2 src hroom ?_
                rw [had', Addr.add_lit]
                simpa using hst
              · show lc.d + q + 0 + cap * es = lc.tot
                omega
              · show lc.d + q + (app old new).length ≤ lc.tot
                have := src.rel.1.1
                rw [app_eq, List.length_append]
                omega
              · have := hfz rfl (q + j) (by have hj : lc.d + q + j < lc.tot := hj; omega)
                show ¬ (fz.1 ≤ lc.d + q + j ∧ lc.d + q + j < fz.2)
                rw [← Nat.add_assoc] at this
                exact this
              · intro j v hj
                rw [app_eq] at hj
                obtain ⟨v', e1, e2⟩ := (o1.append src.rel).1.get hj
                refine ⟨v', ?_, e2.mono (Io.le_add hr _), (o1.append src.rel).2 v' (List.mem_of_getElem? e1)⟩
                show cur'[lc.d + q + j]? = some v'
                rw [c3]
                by_cases hlt : j < n * es
                · rw [if_neg (by omega)]
                  rw [List.getElem?_append_left (by omega)] at e1
                  have := o3 j v' e1
                  rw [cell_at hg] at this
                  exact this
                · rw [List.getElem?_append_right (by omega)] at e1
                  have := (List.getElem?_eq_some_iff.1 e1).1
                  rw [if_pos (by omega), show lc.d + q + j - (lc.d + q + n * es) = j - olds.length by omega]
                  exact e1
            · exact gro (h.put b (.dead [])) (Step.kill hr b hb rfl) rfl (by omega) hs
end
end Go.Am
namespace Go.Am
section
variable {Pg : Program} {a : Act} {o : Oper} {w : World} {ι : Io} {h : H} {st : St} {fr : Fr}
/-! greatest and least -/
theorem mx2_ok {v u r : V} {v' u' : Value} (hv : VR ι v v') (hu : VR ι u u') (e : mx2 v u = some r) (w : World) : ∃ r', (Builtin.max2 v' u').run Pg w = .ok r' w ∧ VR ι r r' := by
  unfold mx2 at e
  split at e
  · rename_i k x k' y
    have e : cond (kEq k k') (some (V.int k (cond (intLe y x) x y))) none = some r := e
    cases hk : kEq k k' with
    | false => rw [hk] at e; cases e
    | true =>
      rw [hk] at e
      obtain rfl := Option.some.inj (show some (V.int k (cond (intLe y x) x y)) = some r from e)
      rw [kEq_iff] at hk
      subst hk
      rw [hv.int_inv, hu.int_inv]
      refine ⟨.int k (cond (intLe y x) x y), ?_, .int _ _⟩
      simp only [Builtin.max2, Sem.run_pure]
      rw [intLe_dec]
      by_cases h1 : y ≤ x
      · rw [if_neg (by omega)]; simp [h1]
      · rw [if_pos (by omega)]; simp [h1]
  · rename_i x y
    obtain rfl := Option.some.inj (show some (V.str (cond (bytesLt x y) y x)) = some r from e)
    obtain ⟨s, rfl, rfl⟩ := hv.str_inv
    obtain ⟨t, rfl, rfl⟩ := hu.str_inv
    refine ⟨.string (cond (bytesLt (s.data.toList.map (·.toNat)) (t.data.toList.map (·.toNat))) t s), ?_, ?_⟩
    · have h1 := cmpS_eq .ge s t
      simp only [Builtin.max2]
      rw [show BinOp.geq = copB .ge from rfl, h1]
      simp only [cmpS]
      cases bytesLt (s.data.toList.map (·.toNat)) (t.data.toList.map (·.toNat)) <;> simp [asBool]
    · cases bytesLt (s.data.toList.map (·.toNat)) (t.data.toList.map (·.toNat))
      · exact .str _
      · exact .str _
  · cases e
theorem mn2_ok {v u r : V} {v' u' : Value} (hv : VR ι v v') (hu : VR ι u u') (e : mn2 v u = some r) (w : World) : ∃ r', (Builtin.min2 v' u').run Pg w = .ok r' w ∧ VR ι r r' := by
  unfold mn2 at e
  split at e
  · rename_i k x k' y
    have e : cond (kEq k k') (some (V.int k (cond (intLe x y) x y))) none = some r := e
    cases hk : kEq k k' with
    | false => rw [hk] at e; cases e
    | true =>
      rw [hk] at e
      obtain rfl := Option.some.inj (show some (V.int k (cond (intLe x y) x y)) = some r from e)
      rw [kEq_iff] at hk
      subst hk
      rw [hv.int_inv, hu.int_inv]
      refine ⟨.int k (cond (intLe x y) x y), ?_, .int _ _⟩
      simp only [Builtin.min2, Sem.run_pure]
      rw [intLe_dec]
      by_cases h1 : x ≤ y
      · rw [if_neg (by omega)]; simp [h1]
      · rw [if_pos (by omega)]; simp [h1]
  · rename_i x y
    obtain rfl := Option.some.inj (show some (V.str (cond (bytesLt y x) y x)) = some r from e)
    obtain ⟨s, rfl, rfl⟩ := hv.str_inv
    obtain ⟨t, rfl, rfl⟩ := hu.str_inv
    refine ⟨.string (cond (bytesLt (t.data.toList.map (·.toNat)) (s.data.toList.map (·.toNat))) t s), ?_, ?_⟩
    · have h1 := cmpS_eq .le s t
      simp only [Builtin.min2]
      rw [show BinOp.leq = copB .le from rfl, h1]
      simp only [cmpS]
      cases bytesLt (t.data.toList.map (·.toNat)) (s.data.toList.map (·.toNat)) <;> simp [asBool]
    · cases bytesLt (t.data.toList.map (·.toNat)) (s.data.toList.map (·.toNat))
      · exact .str _
      · exact .str _
  · cases e
theorem fold_ok {f : V → V → Option V} {g : Value → Value → Sem Value} (hf : ∀ {v u r : V} {v' u' : Value}, VR ι v v' → VR ι u u' → f v u = some r → ∃ r', (g v' u').run Pg w = .ok r' w ∧ VR ι r r') : ∀ {xs : List X} {vs : List Value} {v : V} {v' : Value}, VRs ι (evs xs st fr) vs → VR ι v v' → (foldX f xs st fr h v).safe →
    ∃ r r', foldX f xs st fr h v = .ok r h ∧ (vs.foldlM g v').run Pg w = .ok r' w ∧ VR ι r r'
  | [], vs, v, v', hvs, hv, _ => by
    rw [hvs.nil_inv]
    exact ⟨v, v', rfl, by simp, hv⟩
  | x :: xs, vs, v, v', hvs, hv, hs => by
    obtain ⟨u', t, rfl, hu, ht⟩ := VRs.inv (show VRs ι (x.ev st fr :: evs xs st fr) vs from hvs)
    have hs : (onSome (f v (x.ev st fr)) (foldX f xs st fr h)).safe := hs
    obtain ⟨r, e1, e2⟩ := onSome_safe hs
    rw [e2] at hs
    obtain ⟨r', g1, g2⟩ := hf hv hu e1
    obtain ⟨q, q', a1, a2, a3⟩ := fold_ok hf ht g2 hs
    exact ⟨q, q', e2.trans a1, by simp [List.foldlM_cons, g1, a2], a3⟩
theorem ok_mx {xs : List X} {xs' : List Operand} {ts : List TypeId} (hr : Rel ι h w) (ho : o.op = .call { callee := .builtin .max, args := xs'.toArray, argTypes := ts.toArray }) (hx : VRs ι (evs xs st fr) (xs'.map a.eval)) (hs : (cMx xs st fr h).safe) : OpOK Pg a o w ι h (cMx xs st fr h) := by
  cases xs with
  | nil => exact hs.elim
  | cons x xs =>
    obtain ⟨v', t, e, hv, ht⟩ := VRs.inv (show VRs ι (x.ev st fr :: evs xs st fr) (xs'.map a.eval) from hx)
    obtain ⟨r, r', a1, a2, a3⟩ := fold_ok (Pg := Pg) (g := Builtin.max2) (f := mx2) (w := w) (fun hv hu e => mx2_ok hv hu e w) ht hv (show (foldX mx2 xs st fr h (x.ev st fr)).safe from hs)
    show OpOK Pg a o w ι h (foldX mx2 xs st fr h (x.ev st fr))
    rw [a1]
    refine OpOK.pure hr (v' := r') ?_ a3
    simp [execOp, ho, resolve, invoke, builtin, Builtin.max_, e, a2]
theorem ok_mn {xs : List X} {xs' : List Operand} {ts : List TypeId} (hr : Rel ι h w) (ho : o.op = .call { callee := .builtin .min, args := xs'.toArray, argTypes := ts.toArray }) (hx : VRs ι (evs xs st fr) (xs'.map a.eval)) (hs : (cMn xs st fr h).safe) : OpOK Pg a o w ι h (cMn xs st fr h) := by
  cases xs with
  | nil => exact hs.elim
  | cons x xs =>
    obtain ⟨v', t, e, hv, ht⟩ := VRs.inv (show VRs ι (x.ev st fr :: evs xs st fr) (xs'.map a.eval) from hx)
    obtain ⟨r, r', a1, a2, a3⟩ := fold_ok (Pg := Pg) (g := Builtin.min2) (f := mn2) (w := w) (fun hv hu e => mn2_ok hv hu e w) ht hv (show (foldX mn2 xs st fr h (x.ev st fr)).safe from hs)
    show OpOK Pg a o w ι h (foldX mn2 xs st fr h (x.ev st fr))
    rw [a1]
    refine OpOK.pure hr (v' := r') ?_ a3
    simp [execOp, ho, resolve, invoke, builtin, Builtin.min_, e, a2]
end
end Go.Am
namespace Go.Am
section
variable {Pg : Program} {a : Act} {o : Oper} {w : World} {ι : Io} {h : H} {st : St} {fr : Fr}

def SK.is : SK → TypeDesc → Bool
  | .int, .int _ => true
  | .bool, .bool => true
  | .str, .string => true
  | _, _ => false
theorem skTy_is {t : TypeId} {s : SK} (h : skTy Pg t s = true) : ∃ d, Pg.underlying t = some d ∧ s.is d = true := by
  cases s <;> simp only [skTy] at h <;> split at h <;> first | exact ⟨_, by assumption, rfl⟩ | cases h
theorem run_checkKey' {t : TypeId} {d : TypeDesc} {s : SK} (hd : Pg.underlying t = some d) (hs : s.is d = true) (e : Bool) (n : Nat) (k : Value) (w : World) : (Instr.checkKey e (n + 1) t k).run Pg w = .ok () w := by
  unfold Instr.checkKey
  simp only [Sem.run_bind, run_underlying hd, Result.andThen]
  cases s <;> cases d <;> simp [SK.is] at hs <;> cases k <;> simp
theorem sameNow_ok {s : SK} {d : TypeDesc} {x y : V} {x' y' : Value} {b : Bool} (hx : VR ι x x') (hy : VR ι y y') (e : skEq s x y = some b) (hd : s.is d = true) : Instr.sameNow d x' y' = some b ∧ (b = true → x' = y') ∧ ∀ n, Instr.sameBits n x' x' = true := by
  unfold skEq at e
  split at e
  · rename_i k1 m k2 n
    rw [hx.int_inv, hy.int_inv]
    cases hk : kEq k1 k2 with
    | false => rw [hk] at e; cases e
    | true =>
      rw [hk] at e
      obtain rfl := Option.some.inj e
      rw [kEq_iff] at hk
      subst hk
      cases d <;> simp [SK.is] at hd
      refine ⟨by simp [Instr.sameNow, intEq_dec], fun h => ?_, fun n => ?_⟩
      · rw [intEq_iff] at h; rw [h]
      · cases n <;> simp [Instr.sameBits]
  · rename_i p q
    rw [hx.bool_inv, hy.bool_inv]
    obtain rfl := Option.some.inj e
    cases d <;> simp [SK.is] at hd
    refine ⟨?_, fun h => ?_, fun n => ?_⟩
    · cases p <;> cases q <;> rfl
    · cases p <;> cases q <;> first | rfl | cases h
    · cases n <;> simp [Instr.sameBits]
  · obtain ⟨s1, rfl, rfl⟩ := hx.str_inv
    obtain ⟨s2, rfl, rfl⟩ := hy.str_inv
    obtain rfl := Option.some.inj e
    cases d <;> simp [SK.is] at hd
    have hb : beqL Nat.beq (s1.data.toList.map (·.toNat)) (s2.data.toList.map (·.toNat)) = (s1 == s2) := by
      rw [beqL_nat, Bool.eq_iff_iff, MapKept.bytes_beq]
      simp only [beq_iff_eq, toNat_inj]
      exact ⟨fun h => ByteArray.ext (Array.toList_inj.mp h), fun h => by rw [h]⟩
    refine ⟨by simp [Instr.sameNow, hb], fun h => ?_, fun n => ?_⟩
    · rw [hb, MapKept.bytes_beq] at h; rw [h]
    · cases n <;> simp [Instr.sameBits, MapKept.bytes_beq]
  · cases e

/-! entries -/
def EsR (ι : Io) (es : List (V × V × Nat)) (es' : List MapEntry) : Prop := es.length = es'.length ∧ ∀ (i : Nat) (e : V × V × Nat) (e' : MapEntry), es[i]? = some e → es'[i]? = some e' → VR ι e.1 e'.key ∧ VR ι e.2.1 e'.val ∧ e.2.2 = e'.born
theorem EsR.nil (ι : Io) : EsR ι [] [] := ⟨rfl, fun i e e' h => by simp at h⟩
theorem EsR.inv {e : V × V × Nat} {es : List (V × V × Nat)} {es' : List MapEntry} (h : EsR ι (e :: es) es') : ∃ e' t, es' = e' :: t ∧ (VR ι e.1 e'.key ∧ VR ι e.2.1 e'.val ∧ e.2.2 = e'.born) ∧ EsR ι es t := by
  cases es' with
  | nil => have := h.1; simp at this
  | cons e' t => exact ⟨e', t, rfl, h.2 0 _ _ rfl rfl, by have := h.1; simpa using this, fun i x x' h1 h2 => h.2 (i + 1) x x' (by simpa using h1) (by simpa using h2)⟩
theorem EsR.cons {e : V × V × Nat} {e' : MapEntry} {es : List (V × V × Nat)} {t : List MapEntry} (h : VR ι e.1 e'.key ∧ VR ι e.2.1 e'.val ∧ e.2.2 = e'.born) (k : EsR ι es t) : EsR ι (e :: es) (e' :: t) := by
  refine ⟨by simp [k.1], fun i x x' h1 h2 => ?_⟩
  cases i with
  | zero =>
    simp only [List.getElem?_cons_zero, Option.some.injEq] at h1 h2
    subst h1 h2; exact h
  | succ i => exact k.2 i x x' (by simpa using h1) (by simpa using h2)
theorem EsR.nil_inv {es' : List MapEntry} (h : EsR ι [] es') : es' = [] := List.eq_nil_of_length_eq_zero h.1.symm
theorem EsR.append {es fs : List (V × V × Nat)} {es' fs' : List MapEntry} (h : EsR ι es es') (k : EsR ι fs fs') : EsR ι (es ++ fs) (es' ++ fs') := by
  induction es generalizing es' with
  | nil => rw [h.nil_inv]; exact k
  | cons e es ih => obtain ⟨e', t, rfl, h1, h2⟩ := h.inv; exact EsR.cons h1 (ih h2)
theorem EsR.setVal {v : V} {v' : Value} (hv : VR ι v v') : ∀ {es : List (V × V × Nat)} {es' : List MapEntry} (i : Nat), EsR ι es es' → EsR ι (setVal v es i) (es'.modify i fun e => { e with val := v' })
  | [], es', i, h => by rw [h.nil_inv]; cases i <;> exact EsR.nil ι
  | e :: es, es', i, h => by
    obtain ⟨e', t, rfl, h1, h2⟩ := h.inv
    cases i with
    | zero => exact EsR.cons ⟨h1.1, hv, h1.2.2⟩ h2
    | succ i => exact EsR.cons h1 (EsR.setVal hv i h2)
theorem EsR.dropAt : ∀ {es : List (V × V × Nat)} {es' : List MapEntry} (i : Nat), EsR ι es es' → EsR ι (dropAt es i) (es'.eraseIdx i)
  | [], es', i, h => by rw [h.nil_inv]; cases i <;> exact EsR.nil ι
  | e :: es, es', i, h => by
    obtain ⟨e', t, rfl, h1, h2⟩ := h.inv
    cases i with
    | zero => exact h2
    | succ i => exact EsR.cons h1 (EsR.dropAt i h2)
noncomputable def findAt (kk : KyK) (k : V) (es : List (V × V × Nat)) (i : Nat) : Option (Option (Nat × V × Nat)) :=
  List.rec (motive := fun _ => Nat → Option (Option (Nat × V × Nat))) (fun _ => some none)
    (fun e _ ih i => Option.casesOn (motive := fun _ => Option (Option (Nat × V × Nat))) (keyEq kk k e.1) none (fun b => cond b (some (some (i, e.2))) (ih (Nat.succ i)))) es i
theorem findAt_ok {s : SK} {d : TypeDesc} (hd : s.is d = true) {k : V} {k' : Value} (hk : VR ι k k') : ∀ {es : List (V × V × Nat)} {es' : List MapEntry} (i : Nat) {q : Option (Nat × V × Nat)}, EsR ι es es' → findAt (.sc s) k es i = some q →
    (q = none ∧ Instr.findNow d k' es' i = some none) ∨ ∃ j e e', es[j]? = some e ∧ es'[j]? = some e' ∧ q = some (i + j, e.2) ∧ Instr.findNow d k' es' i = some (some (i + j, e'.val)) ∧ k' = e'.key ∧ ∀ n, Instr.sameBits n k' k' = true
  | [], es', i, q, h, hq => by
    obtain rfl := Option.some.inj (show some none = some q from hq)
    rw [h.nil_inv]
    exact .inl ⟨rfl, rfl⟩
  | e :: es, es', i, q, h, hq => by
    obtain ⟨e', t, rfl, h1, h2⟩ := h.inv
    have hq : Option.casesOn (motive := fun _ => Option (Option (Nat × V × Nat))) (skEq s k e.1) none (fun b => cond b (some (some (i, e.2))) (findAt (.sc s) k es (i + 1))) = some q := hq
    cases hb : skEq s k e.1 with
    | none => rw [hb] at hq; cases hq
    | some b =>
      rw [hb] at hq
      have hq : cond b (some (some (i, e.2))) (findAt (.sc s) k es (i + 1)) = some q := hq
      obtain ⟨n1, n2, n3⟩ := sameNow_ok hk h1.1 hb hd
      cases b with
      | true =>
        obtain rfl := Option.some.inj (show some (some (i, e.2)) = some q from hq)
        exact .inr ⟨0, e, e', rfl, rfl, rfl, by simp [Instr.findNow, n1], n2 rfl, n3⟩
      | false =>
        rcases findAt_ok hd hk (i + 1) h2 (show findAt (.sc s) k es (i + 1) = some q from hq) with ⟨r1, r2⟩ | ⟨j, f, f', r1, r2, r3, r4, r5⟩
        · exact .inl ⟨r1, by simp [Instr.findNow, n1, r2]⟩
        · refine .inr ⟨j + 1, f, f', by simpa using r1, by simpa using r2, by rw [r3]; congr 2; omega, ?_, r5⟩
          simp only [Instr.findNow, n1, r4]
          congr 3; omega
theorem map_at {b : P} {es : List (V × V × Nat)} {clock : Nat} {l : Loc} (hr : Rel ι h w) (hl : ι b = some l) (hb : h.get b = some (.map es clock)) : ∃ entries : Array MapEntry, w.heap[l.g]? = some (.map entries clock) ∧ l.d = 0 ∧ EsR ι es entries.toList := by
  obtain ⟨l', ob, hl', hg, hbr⟩ := hr.blk b _ hb rfl
  rw [hl] at hl'
  obtain rfl := Option.some.inj hl'
  cases hbr with
  | map h0 h1 h2 =>
    rename_i entries
    exact ⟨entries, hg, h0, by simpa using h1, fun i e e' a b => h2 i e e' a (by simpa using b)⟩
theorem Step.putMap {b : P} {es fs : List (V × V × Nat)} {clock c2 : Nat} {l : Loc} {entries : Array MapEntry} (hr : Rel ι h w) (hl : ι b = some l) (hb : h.get b = some (.map es clock)) (h0 : l.d = 0) (hg : w.heap[l.g]? = some (.map entries clock)) {fs' : Array MapEntry} (hf : EsR ι fs fs'.toList) :
    Step ι h w ι (h.put b (.map fs c2)) { w with heap := w.heap.setIfInBounds l.g (.map fs' c2) } := by
  obtain ⟨g1, g2⟩ := MapKept.heap_set (o' := .map fs' c2) hg
  exact Step.put hr hb rfl rfl hl (.map h0 (by simpa using hf.1) (fun i e e' a b => hf.2 i e e' a (by simpa using b))) g1 g2 (by simp) rfl rfl rfl
theorem VR.tup2 {x y : V} {x' y' : Value} (hx : VR ι x x') (hy : VR ι y y') : VR ι (.tup [x, y]) (.tuple #[x', y']) :=
  .tup rfl (fun i v v' e1 e2 => (VRs.cons hx (VRs.cons hy (VRs.nil ι))).2 i v v' e1 (by simpa using e2))
theorem keyOk_sc {s : SK} {k : V} : keyOk (.sc s) k = skOk s k := by cases s <;> cases k <;> rfl

theorem ok_lk {s : SK} {ok : Bool} {z : V} {zv : Value} {m k : X} {m' k' : Operand} {t kt et : TypeId} {inf : TypeInfo} (hr : Rel ι h w) (ho : o.op = .lookup t m' k' ok) (ht : Pg.underlying t = some (.map kt et)) (hkt : skTy Pg kt s = true)
    (hinf : Pg.info? et = some inf) (hz : inf.zero = some zv) (hzv : conOk zv z = true) (hm : VR ι (m.ev st fr) (a.eval m')) (hk : VR ι (k.ev st fr) (a.eval k')) (hs : (cLk (.sc s) ok z m k st fr h).safe) : OpOK Pg a o w ι h (cLk (.sc s) ok z m k st fr h) := by
  have hzr : VR ι z zv := conOk_ok ι hzv
  have hzrun : (zeroValue et).run Pg w = .ok zv w := by simp [zeroValue, typeInfo, hinf, hz]
  obtain ⟨d, hd, hsd⟩ := skTy_is hkt
  have hck := fun e => run_checkKey' hd hsd e 9999 (a.eval k') w
  unfold cLk at hs ⊢
  obtain ⟨_, e⟩ := cond_safe hs
  rw [e] at hs ⊢
  have miss : ∀ (es' : List MapEntry), Instr.findNow d (a.eval k') es' 0 = some none → (Instr.findKey kt (a.eval k') es').run Pg w = .ok none w := fun es' hf => MapKept.run_findKey hd hf
  rcases onMapN_safe hs with ⟨hv, e⟩ | ⟨b, hv, e⟩ <;> rw [e] at hs ⊢ <;> rw [hv] at hm
  · have hrun : (Instr.lookup t (.map none) (a.eval k') ok).run Pg w = .ok (if ok then .tuple #[zv, .bool false] else zv) w := by
      have := miss [] rfl
      cases ok <;> simp [Instr.lookup, run_underlying ht, hck, this, hzrun]
    cases ok with
    | true => exact OpOK.pure hr (v' := .tuple #[zv, .bool false]) (by simp [execOp, ho, hm.nilmap_inv, hrun]) (VR.tup2 hzr (.bool false))
    | false => exact OpOK.pure hr (v' := zv) (by simp [execOp, ho, hm.nilmap_inv, hrun]) hzr
  · obtain ⟨es, clock, hb, e⟩ := onMapB_safe hs
    rw [e] at hs ⊢
    obtain ⟨q, hq, e⟩ := onSome_safe hs
    rw [e]
    obtain ⟨lc, hl, hy⟩ := hm.map_inv
    obtain ⟨entries, hg, h0, hes⟩ := map_at hr hl hb
    have hgo := MapKept.run_getObj_map (P := Pg) hg
    rcases findAt_ok hsd hk 0 hes hq with ⟨rfl, hf⟩ | ⟨j, f, f', r1, r2, rfl, hf, r5⟩
    · have hrun : (Instr.lookup t (.map (some lc.g)) (a.eval k') ok).run Pg w = .ok (if ok then .tuple #[zv, .bool false] else zv) w := by
        have := miss _ hf
        cases ok <;> simp [Instr.lookup, run_underlying ht, hgo, hck, this, hzrun]
      cases ok with
      | true => exact OpOK.pure hr (v' := .tuple #[zv, .bool false]) (by simp [execOp, ho, hy, hrun]) (VR.tup2 hzr (.bool false))
      | false => exact OpOK.pure hr (v' := zv) (by simp [execOp, ho, hy, hrun]) hzr
    · obtain ⟨_, v2, _⟩ := hes.2 j f f' r1 r2
      have hrun : (Instr.lookup t (.map (some lc.g)) (a.eval k') ok).run Pg w = .ok (if ok then .tuple #[f'.val, .bool true] else f'.val) w := by
        have := MapKept.run_findKey (w := w) hd hf
        cases ok <;> simp [Instr.lookup, run_underlying ht, hgo, hck, this]
      cases ok with
      | true => exact OpOK.pure hr (v' := .tuple #[f'.val, .bool true]) (by simp [execOp, ho, hy, hrun]) (VR.tup2 v2 (.bool true))
      | false => exact OpOK.pure hr (v' := f'.val) (by simp [execOp, ho, hy, hrun]) v2

theorem ok_mset {s : SK} {m k x : X} {m' k' x' : Operand} {t kt et : TypeId} (hr : Rel ι h w) (ho : o.op = .mapUpdate t m' k' x' ∨ o.op = .insert t m' k' x') (ht : Pg.underlying t = some (.map kt et)) (hkt : skTy Pg kt s = true)
    (hm : VR ι (m.ev st fr) (a.eval m')) (hk : VR ι (k.ev st fr) (a.eval k')) (hx : VR ι (x.ev st fr) (a.eval x')) (hs : (cMset (.sc s) m k x st fr h).safe) : OpOK Pg a o w ι h (cMset (.sc s) m k x st fr h) := by
  obtain ⟨d, hd, hsd⟩ := skTy_is hkt
  have hck := fun e => run_checkKey' hd hsd e 9999 (a.eval k') w
  unfold cMset at hs ⊢
  obtain ⟨b, hv, e⟩ := onMap_safe hs
  rw [e] at hs ⊢
  rw [hv] at hm
  obtain ⟨_, e⟩ := cond_safe hs
  rw [e] at hs ⊢
  obtain ⟨es, clock, hb, e⟩ := onMapB_safe hs
  rw [e] at hs ⊢
  obtain ⟨q, hq, e⟩ := onSome_safe hs
  rw [e]
  obtain ⟨lc, hl, hy⟩ := hm.map_inv
  obtain ⟨entries, hg, h0, hes⟩ := map_at hr hl hb
  have hgo := MapKept.run_getObj_map (P := Pg) hg
  rcases findAt_ok hsd hk 0 hes hq with ⟨rfl, hf⟩ | ⟨j, f, f', r1, r2, rfl, hf, r5, r6⟩
  · have hrun : (Instr.mapUpdate t (.map (some lc.g)) (a.eval k') (a.eval x')).run Pg w = .ok () { w with heap := w.heap.setIfInBounds lc.g (.map (entries.push { key := a.eval k', val := a.eval x', born := clock }) (clock + 1)) } := by
      have := MapKept.run_findKey (w := w) hd hf
      simp [Instr.mapUpdate, run_underlying ht, hgo, hck, this, MapKept.run_setObj_map _ hg]
    refine OpOK.skip (w' := { w with heap := w.heap.setIfInBounds lc.g (.map (entries.push { key := a.eval k', val := a.eval x', born := clock }) (clock + 1)) }) ?_ (Step.putMap hr hl hb h0 hg ?_)
    · rcases ho with ho | ho <;> simp [execOp, ho, hy, hrun]
    · rw [app_eq, Array.toList_push]
      exact hes.append (EsR.cons ⟨hk, hx, rfl⟩ (EsR.nil ι))
  · have hmod : (entries.modify (0 + j) fun e => { e with key := a.eval k', val := a.eval x' }).toList = entries.toList.modify (0 + j) fun e => { e with val := a.eval x' } := by
      rw [Nat.zero_add]
      have this : entries[j]? = some f' := by simpa using r2
      apply List.ext_getElem?
      intro i
      simp only [Array.getElem?_toList, Array.getElem?_modify, List.getElem?_modify]
      by_cases hij : j = i
      · subst hij
        rw [this]
        simp [r5]
      · have h9 : entries.toList[i]? = entries[i]? := Array.getElem?_toList ..
        cases h8 : entries[i]? <;> simp [hij, h8]
    have hold : ((entries[0 + j]?).map (·.key)).getD (a.eval k') = a.eval k' := by
      have : entries[j]? = some f' := by simpa using r2
      rw [Nat.zero_add, this]
      simp [r5]
    have hks : (Instr.keyThatStays (a.eval k') (a.eval k')).run Pg w = .ok (a.eval k') w := by simp [Instr.keyThatStays, r6]
    have hrun : (Instr.mapUpdate t (.map (some lc.g)) (a.eval k') (a.eval x')).run Pg w = .ok () { w with heap := w.heap.setIfInBounds lc.g (.map (entries.modify (0 + j) fun e => { e with key := a.eval k', val := a.eval x' }) clock) } := by
      have := MapKept.run_findKey (w := w) hd hf
      simp only [Instr.mapUpdate, Sem.run_bind, run_underlying ht, hgo, hck, this, Result.andThen]
      rw [hold]
      simp [hks, MapKept.run_setObj_map _ hg]
    refine OpOK.skip (w' := { w with heap := w.heap.setIfInBounds lc.g (.map (entries.modify (0 + j) fun e => { e with key := a.eval k', val := a.eval x' }) clock) }) ?_ (Step.putMap hr hl hb h0 hg ?_)
    · rcases ho with ho | ho <;> simp [execOp, ho, hy, hrun]
    · rw [hmod]; exact hes.setVal hx (0 + j)

theorem ok_del {s : SK} {m k : X} {m' k' : Operand} {ts : List TypeId} {t kt et : TypeId} (hr : Rel ι h w) (ho : o.op = .call { callee := .builtin .delete, args := #[m', k'], argTypes := (t :: ts).toArray }) (ht : Pg.underlying t = some (.map kt et)) (hkt : skTy Pg kt s = true)
    (hm : VR ι (m.ev st fr) (a.eval m')) (hk : VR ι (k.ev st fr) (a.eval k')) (hs : (cDel (.sc s) m k st fr h).safe) : OpOK Pg a o w ι h (cDel (.sc s) m k st fr h) := by
  obtain ⟨d, hd, hsd⟩ := skTy_is hkt
  have hck := fun e => run_checkKey' hd hsd e 9999 (a.eval k') w
  have t0 : VR ι (.tup []) (.tuple #[]) := .tup rfl (fun i v v' a => by simp at a)
  unfold cDel at hs ⊢
  obtain ⟨_, e⟩ := cond_safe hs
  rw [e] at hs ⊢
  rcases onMapN_safe hs with ⟨hv, e⟩ | ⟨b, hv, e⟩ <;> rw [e] at hs ⊢ <;> rw [hv] at hm
  · refine OpOK.pure hr (v' := .tuple #[]) ?_ t0
    simp [execOp, ho, resolve, invoke, builtin, Builtin.delete_, run_underlying ht, hm.nilmap_inv, hck]
  · obtain ⟨es, clock, hb, e⟩ := onMapB_safe hs
    rw [e] at hs ⊢
    obtain ⟨q, hq, e⟩ := onSome_safe hs
    rw [e]
    obtain ⟨lc, hl, hy⟩ := hm.map_inv
    obtain ⟨entries, hg, h0, hes⟩ := map_at hr hl hb
    have hgo := MapKept.run_getObj_map (P := Pg) hg
    rcases findAt_ok hsd hk 0 hes hq with ⟨rfl, hf⟩ | ⟨j, f, f', r1, r2, rfl, hf, r5, r6⟩
    · have hw : { w with heap := w.heap.setIfInBounds lc.g (.map entries clock) } = w := by
        have : w.heap.setIfInBounds lc.g (.map entries clock) = w.heap := by
          apply Array.ext_getElem?
          intro i
          by_cases hi : i = lc.g
          · subst hi; rw [(MapKept.heap_set (o' := .map entries clock) hg).1, hg]
          · exact (MapKept.heap_set (o' := .map entries clock) hg).2 i hi
        rw [this]
      have hrun : (Builtin.delete_ (t :: ts).toArray o.type #[.map (some lc.g), a.eval k']).run Pg w = .ok (.tuple #[]) w := by
        have := MapKept.run_findKey (w := w) hd hf
        simp [Builtin.delete_, run_underlying ht, hgo, hck, this, MapKept.run_setObj_map _ hg, hw]
      refine OpOK.pure hr (v' := .tuple #[]) ?_ t0
      simp [execOp, ho, resolve, invoke, builtin, hy, hrun]
    · have hrun : (Builtin.delete_ (t :: ts).toArray o.type #[.map (some lc.g), a.eval k']).run Pg w = .ok (.tuple #[]) { w with heap := w.heap.setIfInBounds lc.g (.map (entries.eraseIdxIfInBounds (0 + j)) clock) } := by
        have := MapKept.run_findKey (w := w) hd hf
        simp [Builtin.delete_, run_underlying ht, hgo, hck, this, MapKept.run_setObj_map _ hg]
      refine OpOK.value (v' := .tuple #[]) (w' := { w with heap := w.heap.setIfInBounds lc.g (.map (entries.eraseIdxIfInBounds (0 + j)) clock) }) ?_ t0 (Step.putMap hr hl hb h0 hg ?_)
      · simp [execOp, ho, resolve, invoke, builtin, hy, hrun]
      · rw [Array.toList_eraseIdxIfInBounds]; exact hes.dropAt (0 + j)

theorem ok_cap {x : X} {x' : Operand} {t et : TypeId} (hr : Rel ι h w) (ho : o.op = .call { callee := .builtin .cap, args := #[x'], argTypes := #[t] }) (ht : Pg.underlying t = some (.slice et)) (hx : VR ι (x.ev st fr) (a.eval x')) (hs : (cCap x st fr h).safe) : OpOK Pg a o w ι h (cCap x st fr h) := by
  unfold cCap at hs ⊢
  rcases onSl_safe hs with ⟨hv, e⟩ | ⟨b, off, n, c, hv, e⟩ <;> rw [e] at hs ⊢ <;> rw [hv] at hx
  · refine OpOK.pure hr (v' := .int .i64 0) ?_ (.int _ _)
    simp [execOp, ho, resolve, invoke, builtin, Builtin.cap_, run_underlying ht, hx.nilsl_inv, goInt]
  · cases c with
    | fr es => exact hs.elim
    | ex c =>
      obtain ⟨l, ad, cap, _, hy, _, _, hcap, _⟩ := hx.sl_inv
      obtain rfl : cap = c := hcap
      refine OpOK.pure hr (v' := .int .i64 cap) ?_ (.int _ _)
      simp [execOp, ho, resolve, invoke, builtin, Builtin.cap_, run_underlying ht, hy, goInt]

theorem ok_clr {z : List V} {x : X} {x' : Operand} {t et : TypeId} {inf : TypeInfo} {zv : Value} (hr : Rel ι h w) (ho : o.op = .call { callee := .builtin .clear, args := #[x'], argTypes := #[t] }) (ht : Pg.underlying t = some (.slice et)) (hinf : Pg.info? et = some inf) (hz : inf.zero = some zv) (hzc : con1s zv.cells.toList z = true) (hne : zv.cells.size ≠ 0)
    (hx : VR ι (x.ev st fr) (a.eval x')) (hs : (cClr z x st fr h).safe) : OpOK Pg a o w ι h (cClr z x st fr h) := by
  have t0 : VR ι (.tup []) (.tuple #[]) := .tup rfl (fun i v v' a => by simp at a)
  unfold cClr at hs ⊢
  rcases onSl_safe hs with ⟨hv, e⟩ | ⟨b, off, n, c, hv, e⟩ <;> rw [e] at hs ⊢ <;> rw [hv] at hx
  · refine OpOK.pure hr (v' := .tuple #[]) ?_ t0
    simp [execOp, ho, resolve, invoke, builtin, Builtin.clear_, run_underlying ht, hx.nilsl_inv]
  · obtain ⟨l, ad, cap, hl, hy, hnc, _, _, had⟩ := hx.sl_inv
    cases hn : Nat.beq n 0 with
    | true =>
      rw [natBeq_iff] at hn
      subst hn
      refine OpOK.pure hr (v' := .tuple #[]) ?_ t0
      simp [execOp, ho, resolve, invoke, builtin, Builtin.clear_, run_underlying ht, hy]
    | false =>
      rw [hn, cond_false] at hs
      obtain ⟨h', hw, e⟩ := onSome_safe hs
      rw [cond_false, e]
      have hn0 : n ≠ 0 := fun h0 => by rw [h0] at hn; cases hn
      have had : ad = ⟨l.g, l.d + off, none⟩ := had.resolve_right (by omega)
      have hc : CRs ι (rep n z) (madeCells zv.cells (n * zv.cells.size)).toList := madeCells_rel hzc rfl (Nat.mul_ne_zero hn0 hne)
      obtain ⟨h1, h2⟩ := hr.write (P' := Pg) hw hl hc
      refine OpOK.value (v' := .tuple #[]) ?_ (t0.mono h2.ext) h2
      have hzrun : (zeroValue et).run Pg w = .ok zv w := by simp [zeroValue, typeInfo, hinf, hz]
      have hzc2 : Builtin.zeroCells zv.cells n = madeCells zv.cells (n * zv.cells.size) := rfl
      rcases n with _ | n
      · exact absurd rfl hn0
      · simp [execOp, ho, resolve, invoke, builtin, Builtin.clear_, run_underlying ht, hy, hzrun, hzc2, had, h1]
end
end Go.Am
namespace Go.Am
section
variable {Pg : Program} {a : Act} {o : Oper} {w : World} {ι : Io} {h : H} {st : St} {fr : Fr}

theorem Step.iter (hr : Rel ι h w) {x : Blk} {ob : Obj} (hx : x.alive = true) (hb : ∀ κ : Io, ι.le κ → BlkR κ ⟨w.heap.size, 0, 0, 0⟩ x ob) : Step ι h w (ι.add h.next ⟨w.heap.size, 0, 0, 0⟩) (h.alloc x) (w.alloc ob) :=
  Step.alloc (w := w) (x := x) (l := ⟨w.heap.size, 0, 0, 0⟩) hr rfl hx (hb _ (Io.le_add hr _)) rfl rfl rfl rfl

theorem ok_rng {x : X} {x' : Operand} {t kt et : TypeId} (hr : Rel ι h w) (ho : o.op = .range t x') (ht : Pg.underlying t = some (.map kt et)) (hx : VR ι (x.ev st fr) (a.eval x')) (hs : (cRng x st fr h).safe) : OpOK Pg a o w ι h (cRng x st fr h) := by
  unfold cRng at hs ⊢
  rcases onRng_safe hs with ⟨s, hv, e⟩ | ⟨hv, e⟩ | ⟨b, hv, e⟩ <;> rw [e] at hs ⊢ <;> rw [hv] at hx
  · exact hs.elim
  · have hst := Step.iter (ob := .mapIter none 0 #[] 0) hr (x := .miter none 0 [] 0) rfl (fun κ _ => .miterN rfl)
    refine OpOK.value (v' := .pointer (some ⟨w.heap.size, 0, none⟩)) ?_ (.ptr (Io.add_same _ _ _)) hst
    simp [execOp, ho, Instr.range, newObj, run_underlying ht, hx.nilmap_inv, Sem.run]
  · obtain ⟨es, clock, hb, e⟩ := onMapB_safe hs
    rw [e]
    obtain ⟨lc, hl, hy⟩ := hx.map_inv
    obtain ⟨entries, hg, h0, hes⟩ := map_at hr hl hb
    have hgo := MapKept.run_getObj_map (P := Pg) hg
    have hst := Step.iter (ob := .mapIter (some lc.g) clock #[] clock) hr (x := .miter (some b) clock [] clock) rfl (fun κ hk => .miter rfl (hk _ _ hl))
    refine OpOK.value (v' := .pointer (some ⟨w.heap.size, 0, none⟩)) ?_ (.ptr (Io.add_same _ _ _)) hst
    have hrun : (Instr.range t (.map (some lc.g))).run Pg w = .ok (.pointer (some ⟨w.heap.size, 0, none⟩)) (w.alloc (.mapIter (some lc.g) clock #[] clock)) := by
      simp only [Instr.range, Sem.run_bind, run_underlying ht, Result.andThen_ok, hgo]
      simp [newObj, Sem.run]
    simp [execOp, ho, hy, hrun]

theorem EsR.filter {p : V × V × Nat → Bool} {q : MapEntry → Bool} (hpq : ∀ e e', e.2.2 = e'.born → p e = q e') : ∀ {es : List (V × V × Nat)} {es' : List MapEntry}, EsR ι es es' → EsR ι (filterL p es) (es'.filter q)
  | [], es', h => by rw [h.nil_inv]; exact EsR.nil ι
  | e :: es, es', h => by
    obtain ⟨e', t, rfl, h1, h2⟩ := h.inv
    have ih := EsR.filter hpq h2
    show EsR ι (cond (p e) (e :: filterL p es) (filterL p es)) _
    rw [hpq e e' h1.2.2, List.filter_cons]
    cases q e' with
    | true => exact EsR.cons h1 ih
    | false => exact ih
theorem inL_eq (s : Nat) : ∀ l : List Nat, inL s l = l.contains s
  | [] => rfl
  | x :: l => by
    show cond (Nat.beq x s) true (inL s l) = _
    rw [inL_eq s l, List.contains_cons]
    cases hb : Nat.beq x s with
    | true => rw [natBeq_iff] at hb; subst hb; simp
    | false =>
      have : (s == x) = false := by
        rw [beq_eq_false_iff_ne]
        intro e; subst e; rw [Nat.beq_refl] at hb; cases hb
      rw [this]; rfl
/-- candidates -/
def OeR (ι : Io) (c : Option (V × V × Nat)) (c' : Option MapEntry) : Prop := match c, c' with
  | none, none => True
  | some e, some e' => VR ι e.1 e'.key ∧ VR ι e.2.1 e'.val ∧ e.2.2 = e'.born
  | _, _ => False
def OesR (ι : Io) (cs : List (Option (V × V × Nat))) (cs' : List (Option MapEntry)) : Prop := cs.length = cs'.length ∧ ∀ (i : Nat) c c', cs[i]? = some c → cs'[i]? = some c' → OeR ι c c'
theorem OesR.some : ∀ {es : List (V × V × Nat)} {es' : List MapEntry}, EsR ι es es' → OesR ι (es.map some) (es'.map some) := by
  intro es es' h
  refine ⟨by simp [h.1], fun i c c' h1 h2 => ?_⟩
  rw [List.getElem?_map] at h1 h2
  obtain ⟨e, e1, rfl⟩ := Option.map_eq_some_iff.1 h1
  obtain ⟨e', e2, rfl⟩ := Option.map_eq_some_iff.1 h2
  exact h.2 i e e' e1 e2
theorem OesR.append {a b : List (Option (V × V × Nat))} {a' b' : List (Option MapEntry)} (h : OesR ι a a') (k : OesR ι b b') : OesR ι (a ++ b) (a' ++ b') := by
  refine ⟨by simp [h.1, k.1], fun i c c' h1 h2 => ?_⟩
  by_cases hi : i < a.length
  · rw [List.getElem?_append_left hi] at h1
    rw [List.getElem?_append_left (by rw [← h.1]; exact hi)] at h2
    exact h.2 i c c' h1 h2
  · rw [List.getElem?_append_right (by omega)] at h1
    rw [List.getElem?_append_right (by rw [← h.1]; omega), ← h.1] at h2
    exact k.2 _ c c' h1 h2
def candM (since : Nat) (seen : Array Nat) (es : Array MapEntry) : Array (Option MapEntry) :=
  let left := es.filter fun e => !seen.contains e.born
  let old := left.filter (·.born < since)
  let new := left.filter (·.born ≥ since)
  (if old.isEmpty then #[none] else #[]) ++ (old ++ new).map some
theorem cands_rel {since : Nat} {seen : List Nat} {es : List (V × V × Nat)} {entries : Array MapEntry} (hes : EsR ι es entries.toList) : OesR ι (cands since seen es) (candM since seen.toArray entries).toList := by
  have hleft : EsR ι (filterL (fun e => !(inL e.2.2 seen)) es) (entries.filter fun e : MapEntry => !seen.toArray.contains e.born).toList := by
    rw [Array.toList_filter]
    exact EsR.filter (fun e e' hb => by rw [inL_eq, hb]; simp) hes
  have hold : EsR ι (filterL (fun e => Nat.blt e.2.2 since) (filterL (fun e => !(inL e.2.2 seen)) es)) ((entries.filter fun e : MapEntry => !seen.toArray.contains e.born).filter fun e : MapEntry => decide (e.born < since)).toList := by
    rw [Array.toList_filter]
    exact EsR.filter (fun e e' hb => by rw [hb, Bool.eq_iff_iff, natBlt_iff]; simp) hleft
  have hnew : EsR ι (filterL (fun e => Nat.ble since e.2.2) (filterL (fun e => !(inL e.2.2 seen)) es)) ((entries.filter fun e : MapEntry => !seen.toArray.contains e.born).filter fun e : MapEntry => decide (e.born ≥ since)).toList := by
    rw [Array.toList_filter]
    exact EsR.filter (fun e e' hb => by rw [hb, Bool.eq_iff_iff, natBle_iff]; simp) hleft
  have h1 : OesR ι (match filterL (fun e => Nat.blt e.2.2 since) (filterL (fun e => !(inL e.2.2 seen)) es) with | [] => [none] | _ => []) (if ((entries.filter fun e : MapEntry => !seen.toArray.contains e.born).filter fun e : MapEntry => decide (e.born < since)).isEmpty then #[none] else #[] : Array (Option MapEntry)).toList := by
    have hsz := hold.1
    cases hm : filterL (fun e => Nat.blt e.2.2 since) (filterL (fun e => !(inL e.2.2 seen)) es) with
    | nil =>
      rw [hm] at hsz
      have he : ((entries.filter fun e : MapEntry => !seen.toArray.contains e.born).filter fun e : MapEntry => decide (e.born < since)).isEmpty = true := by
        rw [Array.isEmpty_iff_size_eq_zero, ← Array.length_toList, ← hsz]; rfl
      rw [if_pos he]
      refine ⟨rfl, fun i c c' h1 h2 => ?_⟩
      cases i with
      | zero =>
        simp at h1 h2
        subst h1 h2
        trivial
      | succ i => simp at h1
    | cons x xs =>
      rw [hm] at hsz
      have he : ¬ ((entries.filter fun e : MapEntry => !seen.toArray.contains e.born).filter fun e : MapEntry => decide (e.born < since)).isEmpty = true := by
        rw [Array.isEmpty_iff_size_eq_zero, ← Array.length_toList, ← hsz]; simp
      rw [if_neg he]
      exact ⟨rfl, fun i c c' h1 => by simp at h1⟩
  have h2 := OesR.some (EsR.append hold hnew)
  have := h1.append h2
  show OesR ι (app (match filterL (fun e => Nat.blt e.2.2 since) (filterL (fun e => !(inL e.2.2 seen)) es) with | [] => [none] | _ => []) (mapL some (app _ _))) _
  rw [app_eq, app_eq, mapL_eq]
  simpa [candM] using this
theorem Step.putIter {r : P} {l : Loc} {x y : Blk} {ob oc : Obj} (hr : Rel ι h w) (hl : ι r = some l) (hb : h.get r = some x) (hwr : x.wr = true) (hy : y.alive = true) (hg : w.heap[l.g]? = some ob) (hbr : BlkR ι l y oc) (d : Nat) :
    Step ι h w ι (h.put r y) { w with heap := w.heap.setIfInBounds l.g oc, drawn := d } := by
  obtain ⟨g1, g2⟩ := MapKept.heap_set (o' := oc) hg
  exact Step.put hr hb hwr hy hl hbr g1 g2 (by simp) rfl rfl rfl

theorem ok_nxt {x : X} {x' : Operand} {isStr : Bool} (hr : Rel ι h w) (hi : isStr = false) (ho : o.op = .next x' isStr) (hx : VR ι (x.ev st fr) (a.eval x')) (hs : (cNxt isStr x st fr h).safe) : OpOK Pg a o w ι h (cNxt isStr x st fr h) := by
  subst hi
  have tF : VR ι (.tup [.bool false]) (.tuple #[.bool false]) := .tup rfl (fun i v v' e1 e2 => (VRs.cons (.bool false) (VRs.nil ι)).2 i v v' e1 (by simpa using e2))
  unfold cNxt at hs ⊢
  obtain ⟨r, off, hv, e⟩ := onPtr_safe hs
  rw [e] at hs ⊢
  rw [hv] at hx
  obtain ⟨h0, e⟩ := cond_safe hs
  rw [e] at hs ⊢
  rw [natBeq_iff] at h0
  subst h0
  obtain ⟨b, hb, e⟩ := onSome_safe hs
  rw [e] at hs ⊢
  obtain ⟨l, hl, hy⟩ := hx.ptr_inv
  cases b with
  | cells => exact hs.elim
  | dead => exact hs.elim
  | map => exact hs.elim
  | siter => exact hs.elim
  | miter m since seen last =>
    obtain ⟨l', ob, hl', hg, hbr⟩ := hr.blk r _ hb rfl
    rw [hl] at hl'
    obtain rfl := Option.some.inj hl'
    cases hbr with
    | miterN hd =>
      have hgo : (getObj l.g).run Pg w = .ok (.mapIter none since seen.toArray last) w := by simp [getObj, Sem.run, hg]
      refine OpOK.pure hr (v' := .tuple #[.bool false]) ?_ tF
      simp [execOp, ho, hy, hd, Instr.next, hgo]
    | miter hd hm =>
      rename_i m lm
      have hgo : (getObj l.g).run Pg w = .ok (.mapIter (some lm.g) since seen.toArray last) w := by simp [getObj, Sem.run, hg]
      obtain ⟨es, clock, hmb, e⟩ := onMapB_safe (show (onMapB (h.get m) (fun es clock => nxtM r m since seen last es clock h)).safe from hs)
      have hs : (onMapB (h.get m) (fun es clock => nxtM r m since seen last es clock h)).safe := hs
      show OpOK Pg a o w ι h (onMapB (h.get m) (fun es clock => nxtM r m since seen last es clock h))
      rw [e] at hs ⊢
      obtain ⟨entries, hgm, _, hes⟩ := map_at hr hm hmb
      have hgom := MapKept.run_getObj_map (P := Pg) hgm
      unfold nxtM at hs ⊢
      have hstale : (!seen.isEmpty && !es.isEmpty && allL (fun e => Nat.ble last e.2.2) es) = (!seen.toArray.isEmpty && !entries.isEmpty && entries.all (·.born ≥ last)) := by
        have h1 : es.isEmpty = entries.isEmpty := by
          have := hes.1
          rw [Bool.eq_iff_iff, List.isEmpty_iff_length_eq_zero, Array.isEmpty_iff_size_eq_zero, this, Array.length_toList]
        have h2 : allL (fun e => Nat.ble last e.2.2) es = entries.all (·.born ≥ last) := by
          rw [allL_eq, ← Array.all_toList]
          clear hs e hgom hgm hmb hgo h1
          generalize entries.toList = l at hes
          induction es generalizing l with
          | nil => rw [hes.nil_inv]; rfl
          | cons e es ih =>
            obtain ⟨e', t, rfl, k1, k2⟩ := hes.inv
            rw [List.all_cons, List.all_cons, ih t k2, k1.2.2]
            congr 1
            rw [Bool.eq_iff_iff, natBle_iff]; simp
        rw [h1, h2]; simp
      cases hc : (!seen.isEmpty && !es.isEmpty && allL (fun e => Nat.ble last e.2.2) es) with
      | true => rw [hc] at hs; exact hs.elim
      | false =>
        rw [hc, cond_false] at hs
        rw [cond_false]
        rw [hc] at hstale
        have hcr := cands_rel (since := since) (seen := seen) hes
        -- one draw
        have one : ∀ (i : Nat) (w1 : World) (dr : Nat), w1 = { w with drawn := dr } → (choose (.mapNext (candM since seen.toArray entries).size)).run Pg w = .ok i w1 → (nxtI r m since seen clock (cands since seen es) h i).safe → OpOK Pg a o w ι h (nxtI r m since seen clock (cands since seen es) h i) := by
          intro i w1 dr hw1 hch hsi
          unfold nxtI at hsi ⊢
          obtain ⟨q, hq, e⟩ := onSome_safe hsi
          rw [e]
          rw [nth_eq] at hq
          have hlt : i < (candM since seen.toArray entries).toList.length := by rw [← hcr.1]; exact (List.getElem?_eq_some_iff.1 hq).1
          have hq' := List.getElem?_eq_getElem hlt
          have hrel := hcr.2 i q _ hq hq'
          generalize (candM since seen.toArray entries).toList[i] = q' at hq' hrel
          have hq2 : (candM since seen.toArray entries)[i]? = some q' := by simpa using hq'
          have hst1 : Step ι h w ι h w1 := by subst hw1; exact Step.drawn hr dr
          have hnext : (Instr.next (.pointer (some ⟨l.g, 0, none⟩)) false o.type).run Pg w = (match q' with
              | some e => (do setObj l.g (.mapIter (some lm.g) since (seen.toArray.push e.born) clock); pure (.tuple #[.bool true, e.key, e.val]) : Sem Value)
              | none => pure (.tuple #[.bool false])).run Pg w1 := by
            simp only [Instr.next, Sem.run_bind, hgo, Result.andThen_ok, hgom]
            rw [if_neg (by rw [← hstale]; simp)]
            simp only [Sem.run_bind, Sem.run_pure, Result.andThen_ok]
            show ((choose (.mapNext (candM since seen.toArray entries).size)).run Pg w).andThen (fun a w' => Sem.run Pg (match (candM since seen.toArray entries)[a]? with
              | some (some e) => (do setObj l.g (.mapIter (some lm.g) since (seen.toArray.push e.born) clock); pure (.tuple #[.bool true, e.key, e.val]) : Sem Value)
              | some none => pure (.tuple #[.bool false])
              | none => stuck "Next: no such candidate") w') = _
            rw [hch, Result.andThen_ok, hq2]
            cases q' <;> rfl
          cases q with
          | none =>
            cases q' with
            | some e' => exact hrel.elim
            | none =>
              refine OpOK.value (v' := .tuple #[.bool false]) (w' := w1) ?_ tF hst1
              simp [execOp, ho, hy, hd, hnext]
          | some ee =>
            cases q' with
            | none => exact hrel.elim
            | some e' =>
              obtain ⟨r1, r2, r3⟩ := hrel
              have hgw1 : w1.heap[l.g]? = some (.mapIter (some lm.g) since seen.toArray last) := by rw [hw1]; exact hg
              have hset : (setObj l.g (.mapIter (some lm.g) since (seen.toArray.push e'.born) clock)).run Pg w1 = .ok () { w with heap := w.heap.setIfInBounds l.g (.mapIter (some lm.g) since (seen.toArray.push e'.born) clock), drawn := dr } := by
                have hlt2 : l.g < w.heap.size := (Array.getElem?_eq_some_iff.1 hg).1
                subst hw1
                simp [setObj, Sem.run, hg]
              have hbr : BlkR ι l (.miter (some m) since (app seen [ee.2.2]) clock) (.mapIter (some lm.g) since (seen.toArray.push e'.born) clock) := by
                have : seen.toArray.push e'.born = (app seen [ee.2.2]).toArray := by rw [app_eq, r3]; simp
                rw [this]
                exact .miter hd hm
              have hst := Step.putIter (y := .miter (some m) since (app seen [ee.2.2]) clock) hr hl hb rfl rfl hg hbr dr
              refine OpOK.value (v' := .tuple #[.bool true, e'.key, e'.val]) ?_ (.tup rfl fun i v v' e1 e2 => (VRs.cons (.bool true) (VRs.cons r1 (VRs.cons r2 (VRs.nil ι)))).2 i v v' e1 (by simpa using e2)) hst
              have hn2 : (Instr.next (.pointer (some ⟨l.g, 0, none⟩)) false o.type).run Pg w = .ok (.tuple #[.bool true, e'.key, e'.val]) { w with heap := w.heap.setIfInBounds l.g (.mapIter (some lm.g) since (seen.toArray.push e'.born) clock), drawn := dr } := by
                rw [hnext]
                simp only [Sem.run_bind, hset, Result.andThen_ok, Sem.run_pure]
              have hy2 : a.eval x' = .pointer (some ⟨l.g, 0, none⟩) := by rw [hy, hd]
              simp only [execOp, ho, hy2, Sem.run_bind, hn2, Result.andThen_ok, Sem.run_pure]
        have hlen : (cands since seen es).length = (candM since seen.toArray entries).size := by rw [hcr.1]; simp
        unfold nxtC at hs ⊢
        cases hle : Nat.ble (Am.len (cands since seen es)) 1 with
        | true =>
          rw [hle, cond_true] at hs
          rw [cond_true]
          rw [natBle_iff, len_eq, hlen] at hle
          exact one 0 w w.drawn rfl (by rw [run_choose]; simp [Question.forced, hle]) hs
        | false =>
          rw [hle, cond_false] at hs
          rw [cond_false]
          have hle : ¬ (candM since seen.toArray entries).size ≤ 1 := fun hh => by
            rw [← hlen, ← len_eq, ← natBle_iff] at hh
            rw [hh] at hle; cases hle
          obtain ⟨s1, s2⟩ := hs
          rw [len_eq, hlen] at s1 s2 ⊢
          have hi : w.tape w.drawn (.mapNext (candM since seen.toArray entries).size) % (candM since seen.toArray entries).size < (candM since seen.toArray entries).size := Nat.mod_lt _ s1
          obtain ⟨v, h', lf, rest⟩ := one _ { w with drawn := w.drawn + 1 } (w.drawn + 1) rfl (by rw [run_choose]; simp [Question.forced, hle, Question.cut]) (s2 _ hi)
          exact ⟨v, h', .ask _ hi lf, rest⟩

noncomputable def findSA (s : Nat) (es : List (V × V × Nat)) (i : Nat) : Option Nat :=
  List.rec (motive := fun _ => Nat → Option Nat) (fun _ => none) (fun e _ ih i => cond (Nat.beq e.2.2 s) (some i) (ih (Nat.succ i))) es i
theorem findSA_ok {s : Nat} : ∀ {es : List (V × V × Nat)} {es' : List MapEntry} (i : Nat) {k : Nat}, EsR ι es es' → findSA s es i = some k → ∃ j e e', k = i + j ∧ es[j]? = some e ∧ es'.find? (·.born == s) = some e' ∧ VR ι e.1 e'.key ∧ VR ι e.2.1 e'.val
  | [], _, _, _, _, hk => by cases hk
  | e :: es, es', i, k, h, hk => by
    obtain ⟨e', t, rfl, h1, h2⟩ := h.inv
    have hk : cond (Nat.beq e.2.2 s) (some i) (findSA s es (i + 1)) = some k := hk
    cases hb : Nat.beq e.2.2 s with
    | true =>
      rw [hb] at hk
      obtain rfl := Option.some.inj (show some i = some k from hk)
      rw [natBeq_iff] at hb
      refine ⟨0, e, e', rfl, rfl, ?_, h1.1, h1.2.1⟩
      rw [List.find?_cons]; simp [← h1.2.2, hb]
    | false =>
      rw [hb] at hk
      obtain ⟨j, f, f', r1, r2, r3, r4⟩ := findSA_ok (i + 1) h2 (show findSA s es (i + 1) = some k from hk)
      refine ⟨j + 1, f, f', by omega, by simpa using r2, ?_, r4⟩
      have hne : (e'.born == s) = false := by
        rw [beq_eq_false_iff_ne, ← h1.2.2]
        intro hh; rw [hh, Nat.beq_refl] at hb; cases hb
      rw [List.find?_cons, hne]; exact r3
theorem lastL_eq : ∀ l : List Nat, lastL l = l.getLast?
  | [] => rfl
  | x :: l => by
    show (match lastL l with | some y => some y | none => some x) = _
    rw [lastL_eq l, List.getLast?_cons]
    cases l.getLast? <;> rfl
theorem ok_ent {x : X} {x' : Operand} (hr : Rel ι h w) (ho : o.op = .entry x') (hx : VR ι (x.ev st fr) (a.eval x')) (hs : (cEnt x st fr h).safe) : OpOK Pg a o w ι h (cEnt x st fr h) := by
  unfold cEnt at hs ⊢
  obtain ⟨r, off, hv, e⟩ := onPtr_safe hs
  rw [e] at hs ⊢
  rw [hv] at hx
  obtain ⟨h0, e⟩ := cond_safe hs
  rw [e] at hs ⊢
  rw [natBeq_iff] at h0
  subst h0
  obtain ⟨b, hb, e⟩ := onSome_safe hs
  rw [e] at hs ⊢
  obtain ⟨l, hl, hy⟩ := hx.ptr_inv
  cases b with
  | cells => exact hs.elim
  | dead => exact hs.elim
  | map => exact hs.elim
  | siter => exact hs.elim
  | miter m since seen last =>
    obtain ⟨l', ob, hl', hg, hbr⟩ := hr.blk r _ hb rfl
    rw [hl] at hl'
    obtain rfl := Option.some.inj hl'
    cases hbr with
    | miterN hd => exact hs.elim
    | miter hd hm =>
      rename_i m lm
      have hgo : (getObj l.g).run Pg w = .ok (.mapIter (some lm.g) since seen.toArray last) w := by simp [getObj, Sem.run, hg]
      have hs : (entM h m seen last).safe := hs
      show OpOK Pg a o w ι h (entM h m seen last)
      unfold entM at hs ⊢
      obtain ⟨es, clock, hmb, e⟩ := onMapB_safe hs
      rw [e] at hs ⊢
      obtain ⟨entries, hgm, _, hes⟩ := map_at hr hm hmb
      have hgom := MapKept.run_getObj_map (P := Pg) hgm
      obtain ⟨stamp, hstamp, e⟩ := onSome_safe hs
      rw [e] at hs ⊢
      obtain ⟨hc, e⟩ := cond_safe hs
      rw [e] at hs ⊢
      rw [natBeq_iff] at hc
      obtain ⟨i, hi, e⟩ := onSome_safe hs
      rw [e] at hs ⊢
      obtain ⟨ee, hee, e⟩ := onSome_safe hs
      rw [e]
      obtain ⟨j, e1, e', rfl, r1, r2, r3, r4⟩ := findSA_ok (s := stamp) 0 hes hi
      rw [nth_eq, Nat.zero_add, r1] at hee
      obtain rfl := Option.some.inj hee
      rw [lastL_eq] at hstamp
      refine OpOK.pure hr (v' := .tuple #[e'.key, e'.val]) ?_ (VR.tup2 r3 r4)
      have hback : seen.toArray.back? = some stamp := by simpa using hstamp
      have hfind : entries.find? (·.born == stamp) = some e' := by rw [← Array.find?_toList]; exact r2
      have hrun : (Instr.entry (.pointer (some ⟨l.g, 0, none⟩))).run Pg w = .ok (.tuple #[e'.key, e'.val]) w := by
        simp only [Instr.entry, Sem.run_bind, hgo, Result.andThen_ok, hback, hgom]
        rw [if_neg (by simp [hc])]
        simp only [Sem.run_bind, Sem.run_pure, Result.andThen_ok, hfind]
      have hy2 : a.eval x' = .pointer (some ⟨l.g, 0, none⟩) := by rw [hy, hd]
      simp [execOp, ho, hy2, hrun]
end
end Go.Am
namespace Go.Am

/-- the outcome does not hang on memory -/
def Pur (f : H → R) : Prop := (∀ h, f h = .no) ∨ ∃ v, ∀ h, f h = .ok v h
theorem Pur.no : Pur (fun _ => .no) := .inl fun _ => rfl
theorem Pur.ok (v : V) : Pur (fun h => .ok v h) := .inr ⟨v, fun _ => rfl⟩
theorem Pur.onSome {α : Type} {o : Option α} {f : α → H → R} (k : ∀ a, Pur (f a)) : Pur (fun h => onSome o (fun a => f a h)) := by
  cases o with
  | none => exact .no
  | some a => exact k a
theorem Pur.cond {c : Bool} {f g : H → R} (k : Pur f) (l : Pur g) : Pur (fun h => cond c (f h) (g h)) := by
  cases c
  · exact l
  · exact k
theorem Pur.onInt {v : V} {f : IntKind → Int → H → R} (k : ∀ a b, Pur (f a b)) : Pur (fun h => onInt v (fun a b => f a b h)) := by
  cases v <;> first | exact k _ _ | exact .no
theorem Pur.onBool {v : V} {f : Bool → H → R} (k : ∀ a, Pur (f a)) : Pur (fun h => onBool v (fun a => f a h)) := by
  cases v <;> first | exact k _ | exact .no
theorem Pur.onStr {v : V} {f : List Nat → H → R} (k : ∀ a, Pur (f a)) : Pur (fun h => onStr v (fun a => f a h)) := by
  cases v <;> first | exact k _ | exact .no
theorem Pur.onPtr {v : V} {f : P → Nat → H → R} (k : ∀ a b, Pur (f a b)) : Pur (fun h => onPtr v (fun a b => f a b h)) := by
  cases v <;> first | exact k _ _ | exact .no
theorem Pur.onAgg {v : V} {f : List V → H → R} (k : ∀ a, Pur (f a)) : Pur (fun h => onAgg v (fun a => f a h)) := by
  cases v <;> first | exact k _ | exact .no
theorem Pur.onTup {v : V} {f : List V → H → R} (k : ∀ a, Pur (f a)) : Pur (fun h => onTup v (fun a => f a h)) := by
  cases v <;> first | exact k _ | exact .no
theorem Pur.onSl {v : V} {g : H → R} {f : P → Nat → Nat → Cp → H → R} (l : Pur g) (k : ∀ a b c d, Pur (f a b c d)) : Pur (fun h => onSl v (g h) (fun a b c d => f a b c d h)) := by
  cases v <;> first | exact k _ _ _ _ | exact l | exact .no
theorem Pur.onNck {v : V} {f : P → Nat → H → R} {g : P → List V → List V → H → R} (k : ∀ a b, Pur (f a b)) (l : ∀ a b c, Pur (g a b c)) : Pur (fun h => onNck v (fun a b => f a b h) (fun a b c => g a b c h)) := by
  cases v <;> first | exact k _ _ | exact l _ _ _ | exact .no
theorem Pur.onIf {v : V} {g : H → R} {f : TypeId → V → H → R} (l : Pur g) (k : ∀ a b, Pur (f a b)) : Pur (fun h => onIf v (g h) (fun a b => f a b h)) := by
  cases v <;> first | exact k _ _ | exact l | exact .no
theorem Pur.fold {f : V → V → Option V} {st : St} {fr : Fr} : ∀ (xs : List X) (v : V), Pur (fun h => foldX f xs st fr h v)
  | [], v => .ok v
  | x :: xs, v => by
    show Pur (fun h => Am.onSome (f v (x.ev st fr)) (foldX f xs st fr h))
    exact Pur.onSome fun a => Pur.fold xs a

def isPu : C → Bool
  | .mv _ | .pick .. | .build .. | .nck _ | .ar .. | .cmp .. | .bits .. | .shl .. | .shr .. | .sadd .. | .scmp .. | .eqv .. | .neg .. | .not _ | .xorU .. | .i2i .. | .i2s _ | .s2s _
  | .mkif .. | .mkfn .. | .sls .. | .fa .. | .fld .. | .fldn .. | .ixa .. | .ixarr .. | .ixs .. | .ixag .. | .asr .. | .ext .. | .lenc _ | .lenS _ | .lenL _ | .mx _ | .mn _ => true
  | _ => false

theorem isPu_ok {c : C} (hc : isPu c = true) (st : St) (fr : Fr) : Pur (c.sem st fr) := by
  cases c <;> try (cases hc; done)
  case mv x => exact .ok _
  case pick c a b => exact Pur.onBool fun t => .ok _
  case build z ps => exact Pur.onSome fun cs => .ok _
  case nck x => exact Pur.onNck (fun _ _ => .ok _) (fun _ _ _ => .ok _)
  case ar op k x y =>
    refine Pur.onInt fun k1 a => Pur.onInt fun k2 b => Pur.cond (Pur.cond ?_ .no) .no
    cases op
    · exact .ok _
    · exact .ok _
    · exact .ok _
    · exact Pur.cond .no (.ok _)
    · exact Pur.cond .no (.ok _)
  case cmp op x y => exact Pur.onInt fun k1 a => Pur.onInt fun k2 b => Pur.cond (.ok _) .no
  case bits op k x y => exact Pur.onInt fun k1 a => Pur.onInt fun k2 b => Pur.cond (Pur.cond (.ok _) .no) .no
  case shl k x y => exact Pur.onInt fun k1 a => Pur.onInt fun k2 b => Pur.cond (Pur.cond (.ok _) .no) .no
  case shr k x y => exact Pur.onInt fun k1 a => Pur.onInt fun k2 b => Pur.cond (Pur.cond (.ok _) .no) .no
  case sadd x y => exact Pur.onStr fun a => Pur.onStr fun b => Pur.cond (.ok _) .no
  case scmp op x y => exact Pur.onStr fun a => Pur.onStr fun b => .ok _
  case eqv neg k x y => exact Pur.onSome fun b => .ok _
  case neg k x => exact Pur.onInt fun k1 n => Pur.cond (.ok _) .no
  case not x => exact Pur.onBool fun b => .ok _
  case xorU k x => exact Pur.onInt fun k1 n => Pur.cond (.ok _) .no
  case i2i k x => exact Pur.onInt fun k1 n => .ok _
  case i2s x => exact Pur.onInt fun k1 n => .ok _
  case s2s x => exact Pur.onStr fun l => .ok _
  case mkif t x => exact .ok _
  case mkfn f a c => exact .ok _
  case sls x lo hi => exact Pur.onStr fun s => Pur.onSome fun hh => Pur.onSome fun l => Pur.onSome fun r => .ok _
  case fa off x => exact Pur.onPtr fun b o => .ok _
  case fld off x => exact Pur.onAgg fun cs => Pur.onSome fun v => .ok _
  case fldn off n x => exact Pur.onAgg fun cs => Pur.onSome fun v => .ok _
  case ixa es x i => exact Pur.onSl .no fun b o n _ => Pur.onSome fun i => Pur.cond (.ok _) .no
  case ixarr es n x i => exact Pur.onPtr fun b o => Pur.onSome fun i => Pur.cond (.ok _) .no
  case ixs x i => exact Pur.onStr fun s => Pur.onSome fun i => Pur.onSome fun c => .ok _
  case ixag es n agg x i => exact Pur.onAgg fun cs => Pur.onSome fun i => Pur.cond (Pur.cond (Pur.onSome fun r => .ok _) (Pur.onSome fun v => .ok _)) .no
  case asr t ok z x => exact Pur.onIf (Pur.cond (.ok _) .no) fun t' v => Pur.cond (.ok _) (Pur.cond (.ok _) .no)
  case ext i x => exact Pur.onTup fun vs => Pur.onSome fun v => .ok _
  case lenc n => exact .ok _
  case lenS x => exact Pur.onStr fun l => .ok _
  case lenL x => exact Pur.onSl (.ok _) fun _ _ n _ => .ok _
  case mx xs =>
    cases xs with
    | nil => exact .no
    | cons x xs => exact Pur.fold xs _
  case mn xs =>
    cases xs with
    | nil => exact .no
    | cons x xs => exact Pur.fold xs _

/-- more memory, the same outcome -/
def Sub (h h' : H) : Prop := ∀ b x, h.get b = some x → x.alive = true → h'.get b = some x
theorem Sub.cells {h h' : H} (s : Sub h h') {b : P} {cs : List V} (e : h.cells b = some cs) : h'.cells b = some cs := by
  have ⟨ro, hb⟩ : ∃ ro, h.get b = some (.cells cs ro) := by
    unfold H.cells at e
    cases hb : h.get b with
    | none => rw [hb] at e; cases e
    | some x =>
      rw [hb] at e
      cases x with
      | cells cs' ro => have e : some cs' = some cs := e; obtain rfl := Option.some.inj e; exact ⟨ro, rfl⟩
      | dead _ => cases e
      | map _ _ => cases e
      | siter _ _ => cases e
      | miter _ _ _ _ => cases e
  unfold H.cells
  rw [s b _ hb rfl]
  rfl
theorem Sub.read {h h' : H} (s : Sub h h') {b : P} {o n : Nat} {vs : List V} (e : h.read b o n = some vs) : h'.read b o n = some vs := by
  unfold H.read at e ⊢
  cases hc : h.cells b with
  | none => rw [hc] at e; cases e
  | some cs => rw [hc] at e; rw [s.cells hc]; exact e

def isRd : C → Bool
  | .ld _ | .ldn .. | .slc .. | .lenM _ | .lk .. | .slarr .. => true
  | _ => false
theorem roomOf_sub {h h' : H} (s : Sub h h') {es : Nat} {b : P} {o : Nat} {c : Cp} {r : Nat} (e : roomOf es b o c h = some r) : roomOf es b o c h' = some r := by
  cases c with
  | ex k => exact e
  | fr es' =>
    have e : cond (Nat.beq es es') (Option.casesOn (motive := fun _ => Option Nat) (h.cells b) none (fun cs => some (Nat.div (Nat.sub (Am.len cs) o) es))) none = some r := e
    show cond (Nat.beq es es') (Option.casesOn (motive := fun _ => Option Nat) (h'.cells b) none (fun cs => some (Nat.div (Nat.sub (Am.len cs) o) es))) none = some r
    cases hb : Nat.beq es es' with
    | false => rw [hb] at e; cases e
    | true =>
      rw [hb] at e
      cases hc : h.cells b with
      | none => rw [hc] at e; cases e
      | some cs => rw [hc] at e; rw [s.cells hc]; exact e
theorem sliceOf_sub {es : Nat} {b : P} {o n : Nat} {c : Cp} {lo hi mx : Option X} {st : St} {fr : Fr} {h : H} (hs : (sliceOf es b o n c lo hi mx st fr h).safe) : ∃ v, sliceOf es b o n c lo hi mx st fr h = .ok v h ∧ ∀ h', Sub h h' → sliceOf es b o n c lo hi mx st fr h' = .ok v h' := by
  unfold sliceOf at hs ⊢
  obtain ⟨room, e0, e⟩ := onSome_safe hs
  rw [e] at hs ⊢
  obtain ⟨m, e1, e⟩ := onSome_safe hs
  rw [e] at hs ⊢
  obtain ⟨hh, e2, e⟩ := onSome_safe hs
  rw [e] at hs ⊢
  obtain ⟨l, e3, e⟩ := onSome_safe hs
  rw [e]
  refine ⟨_, rfl, fun h' s => ?_⟩
  rw [roomOf_sub s e0]
  show onSome (bnd mx room room st fr) _ = _
  rw [e1]
  show onSome (bnd hi n m st fr) _ = _
  rw [e2]
  show onSome (bnd lo 0 hh st fr) _ = _
  rw [e3]
  rfl
theorem isRd_ok {c : C} (hc : isRd c = true) {st : St} {fr : Fr} {h : H} (hs : (c.sem st fr h).safe) : ∃ v, c.sem st fr h = .ok v h ∧ ∀ h', Sub h h' → c.sem st fr h' = .ok v h' := by
  cases c <;> try (cases hc; done)
  case ld x =>
    have hs : (cLd x st fr h).safe := hs
    show ∃ v, cLd x st fr h = .ok v h ∧ ∀ h', Sub h h' → cLd x st fr h' = .ok v h'
    unfold cLd at hs ⊢
    obtain ⟨b, o, hv, e⟩ := onPtr_safe hs
    rw [e] at hs ⊢
    obtain ⟨cs, hcs, e⟩ := onSome_safe hs
    rw [e] at hs ⊢
    obtain ⟨v, hn, e⟩ := onSome_safe hs
    rw [e]
    refine ⟨v, rfl, fun h' s => ?_⟩
    rw [hv]
    show onSome (h'.cells b) _ = _
    rw [s.cells hcs]
    show onSome (nth cs o) _ = _
    rw [hn]
    rfl
  case ldn n x =>
    have hs : (cLdn n x st fr h).safe := hs
    show ∃ v, cLdn n x st fr h = .ok v h ∧ ∀ h', Sub h h' → cLdn n x st fr h' = .ok v h'
    unfold cLdn at hs ⊢
    obtain ⟨b, o, hv, e⟩ := onPtr_safe hs
    rw [e] at hs ⊢
    obtain ⟨cs, hcs, e⟩ := onSome_safe hs
    rw [e]
    refine ⟨_, rfl, fun h' s => ?_⟩
    rw [hv]
    show onSome (h'.read b o n) _ = _
    rw [s.read hcs]
    rfl
  case slc es x lo hi mx =>
    have hs : (cSlc es x lo hi mx st fr h).safe := hs
    show ∃ v, cSlc es x lo hi mx st fr h = .ok v h ∧ ∀ h', Sub h h' → cSlc es x lo hi mx st fr h' = .ok v h'
    unfold cSlc at hs ⊢
    rcases onSl_safe hs with ⟨hv, e⟩ | ⟨b, q, n, c, hv, e⟩
    · rw [e] at hs ⊢
      obtain ⟨m, e1, e⟩ := onSome_safe hs
      rw [e] at hs ⊢
      obtain ⟨hh, e2, e⟩ := onSome_safe hs
      rw [e] at hs ⊢
      obtain ⟨l, e3, e⟩ := onSome_safe hs
      rw [e]
      refine ⟨_, rfl, fun h' s => ?_⟩
      rw [hv]
      show onSome (bnd mx 0 0 st fr) _ = _
      rw [e1]
      show onSome (bnd hi 0 0 st fr) _ = _
      rw [e2]
      show onSome (bnd lo 0 0 st fr) _ = _
      rw [e3]
      rfl
    · rw [e] at hs ⊢
      obtain ⟨v, e1, e2⟩ := sliceOf_sub hs
      refine ⟨v, e1, fun h' s => ?_⟩
      rw [hv]
      exact e2 h' s
  case slarr es n x lo hi mx =>
    have hs : (cSlarr es n x lo hi mx st fr h).safe := hs
    show ∃ v, cSlarr es n x lo hi mx st fr h = .ok v h ∧ ∀ h', Sub h h' → cSlarr es n x lo hi mx st fr h' = .ok v h'
    unfold cSlarr at hs ⊢
    obtain ⟨b, o, hv, e⟩ := onPtr_safe hs
    rw [e] at hs ⊢
    obtain ⟨v, e1, e2⟩ := sliceOf_sub hs
    refine ⟨v, e1, fun h' s => ?_⟩
    rw [hv]
    exact e2 h' s
  case lenM x =>
    have hs : (cLenM x st fr h).safe := hs
    show ∃ v, cLenM x st fr h = .ok v h ∧ ∀ h', Sub h h' → cLenM x st fr h' = .ok v h'
    unfold cLenM at hs ⊢
    rcases onMapN_safe hs with ⟨hv, e⟩ | ⟨b, hv, e⟩
    · rw [e]
      refine ⟨_, rfl, fun h' s => ?_⟩
      rw [hv]
      rfl
    · rw [e] at hs ⊢
      obtain ⟨es, clock, hb, e⟩ := onMapB_safe hs
      rw [e]
      refine ⟨_, rfl, fun h' s => ?_⟩
      rw [hv]
      show onMapB (h'.get b) _ = _
      rw [s b _ hb rfl]
      rfl
  case lk kk ok z m k =>
    have hs : (cLk kk ok z m k st fr h).safe := hs
    show ∃ v, cLk kk ok z m k st fr h = .ok v h ∧ ∀ h', Sub h h' → cLk kk ok z m k st fr h' = .ok v h'
    unfold cLk at hs ⊢
    obtain ⟨hk, e⟩ := cond_safe hs
    rw [e] at hs ⊢
    rw [hk]
    have res : ∀ q, ∃ v, ∀ h, lkRes ok z h q = .ok v h := by
      intro q
      cases q with
      | none => exact ⟨_, fun _ => rfl⟩
      | some e => exact ⟨_, fun _ => rfl⟩
    rcases onMapN_safe hs with ⟨hv, e⟩ | ⟨b, hv, e⟩
    · rw [e]
      obtain ⟨v, hr⟩ := res none
      refine ⟨v, hr h, fun h' s => ?_⟩
      rw [hv]
      exact hr h'
    · rw [e] at hs ⊢
      obtain ⟨es, clock, hb, e⟩ := onMapB_safe hs
      rw [e] at hs ⊢
      obtain ⟨q, hq, e⟩ := onSome_safe hs
      rw [e]
      obtain ⟨v, hr⟩ := res q
      refine ⟨v, hr h, fun h' s => ?_⟩
      rw [hv]
      show onMapB (h'.get b) _ = _
      rw [s b _ hb rfl]
      show onSome (findK kk (k.ev st fr) es) _ = _
      rw [hq]
      exact hr h'
end Go.Am
