/- Regions whose order is drawn; the beginning and the end of a run. -/
import Derived.Test.YtanlbgabfehaoaaGreatDoorAmD
import Derived.Test.YtanlbgabfehaoaaGreatDoorAmC
import Derived.ProofKit
import Derived.Laws.StandIn
import Derived.Lib.Bytealg
import Derived.OpenShut
import Derived.FnData
import Derived.LaidLaws
namespace Go.Am

def deps (o : Oper) : List Nat := o.after.toList.filterMap fun e => if Region.binds .any e then some e.on else none
theorem mem_deps {o : Oper} {j : Nat} : j ∈ deps o ↔ ∃ e ∈ o.after, Region.binds .any e = true ∧ e.on = j := by
  unfold deps
  rw [List.mem_filterMap]
  constructor
  · rintro ⟨e, he, h⟩
    split at h
    · exact ⟨e, by simpa using he, by assumption, Option.some.inj h⟩
    · cases h
  · rintro ⟨e, he, hb, rfl⟩
    exact ⟨e, by simpa using he, by rw [if_pos hb]⟩
def maskOf (acc : List Nat) (o : Oper) : Nat := (deps o).foldl (fun s j => s ||| (2 ^ j ||| acc.getD j 0)) 0
def masks : List Oper → List Nat → List Nat
  | [], acc => acc
  | o :: r, acc => masks r (acc ++ [maskOf acc o])
def depsOk : List Oper → Nat → Bool
  | [], _ => true
  | o :: r, i => (deps o).all (fun j => Nat.blt j i) && depsOk r (i + 1)

theorem fold_bit (acc : List Nat) (j : Nat) : ∀ (l : List Nat) (s : Nat), (l.foldl (fun s j => s ||| (2 ^ j ||| acc.getD j 0)) s).testBit j = true → s.testBit j = true ∨ ∃ d ∈ l, j = d ∨ (acc.getD d 0).testBit j = true
  | [], s, h => .inl h
  | d :: l, s, h => by
    rw [List.foldl_cons] at h
    rcases fold_bit acc j l _ h with h1 | ⟨e, he, h2⟩
    · simp only [Nat.testBit_or, Bool.or_eq_true] at h1
      rcases h1 with h1 | h1 | h1
      · exact .inl h1
      · rw [Nat.testBit_two_pow] at h1
        exact .inr ⟨d, List.mem_cons_self, .inl (by have := of_decide_eq_true h1; exact this.symm)⟩
      · exact .inr ⟨d, List.mem_cons_self, .inr h1⟩
    · exact .inr ⟨e, List.mem_cons_of_mem _ he, h2⟩

theorem masks_spec : ∀ (l : List Oper) (acc : List Nat), depsOk l acc.length = true → (∀ k, k < acc.length → (masks l acc)[k]? = acc[k]?) ∧
    ∀ k o, l[k]? = some o → ∃ m, (masks l acc)[acc.length + k]? = some m ∧ ∀ j, m.testBit j = true → ∃ d ∈ deps o, d < acc.length + k ∧ (j = d ∨ ((masks l acc).getD d 0).testBit j = true)
  | [], acc, _ => ⟨fun _ _ => rfl, fun k o h => by simp at h⟩
  | o :: r, acc, hd => by
    simp only [depsOk, Bool.and_eq_true, List.all_eq_true] at hd
    obtain ⟨hd1, hd2⟩ := hd
    obtain ⟨h1, h2⟩ := masks_spec r (acc ++ [maskOf acc o]) (by simpa using hd2)
    have hk : ∀ k, k < acc.length → (masks (o :: r) acc)[k]? = acc[k]? := by
      intro k hk
      have := h1 k (by simp; omega)
      rw [List.getElem?_append_left hk] at this
      exact this
    refine ⟨hk, fun k o' ho' => ?_⟩
    cases k with
    | zero =>
      obtain rfl : o = o' := by simpa using ho'
      refine ⟨maskOf acc o, ?_, fun j hj => ?_⟩
      · have := h1 acc.length (by simp)
        simp at this
        exact this
      · rcases fold_bit acc j (deps o) 0 hj with h0 | ⟨d, hdm, h3⟩
        · simp at h0
        · have hdl : d < acc.length := (natBlt_iff _ _).1 (hd1 d hdm)
          refine ⟨d, hdm, by omega, h3.imp id fun h4 => ?_⟩
          rw [List.getD_eq_getElem?_getD, hk d hdl, ← List.getD_eq_getElem?_getD]
          exact h4
    | succ k =>
      obtain ⟨m, e1, e2⟩ := h2 k o' (by simpa using ho')
      refine ⟨m, ?_, fun j hj => ?_⟩
      · rw [show acc.length + (k + 1) = (acc ++ [maskOf acc o]).length + k by simp; omega]; exact e1
      · obtain ⟨d, hdm, hlt, h3⟩ := e2 j hj
        exact ⟨d, hdm, by simp at hlt; omega, h3⟩

/-- what is reached is closed under what is waited for -/
theorem anc_listed {ops : Array Oper} (hd : depsOk ops.toList 0 = true) {L : Nat → Prop} (hL : ∀ i o, L i → ops[i]? = some o → ∀ j ∈ deps o, L j) :
    ∀ (i : Nat) (o : Oper), ops[i]? = some o → (∀ j ∈ deps o, L j) → ∀ j, ((masks ops.toList []).getD i 0).testBit j = true → L j := by
  obtain ⟨_, h2⟩ := masks_spec ops.toList [] hd
  intro i
  induction i using Nat.strongRecOn with
  | _ i ih =>
    intro o ho hdeps j hj
    obtain ⟨m, e1, e2⟩ := h2 i o (by simpa using ho)
    simp only [List.length_nil, Nat.zero_add] at e1 e2
    rw [List.getD_eq_getElem?_getD, e1] at hj
    obtain ⟨d, hdm, hlt, h3⟩ := e2 j hj
    have hLd := hdeps d hdm
    rcases h3 with rfl | h3
    · exact hLd
    · cases hod : ops[d]? with
      | none =>
        rw [List.getD_eq_getElem?_getD] at h3
        have hlen : (masks ops.toList [])[d]? = none ∨ ∃ m, (masks ops.toList [])[d]? = some m := by cases (masks ops.toList [])[d]? with | none => exact .inl rfl | some m => exact .inr ⟨m, rfl⟩
        have hi : i < ops.size := (Array.getElem?_eq_some_iff.1 ho).1
        simp at hod
        omega
      | some od => exact ih d hlt od hod (hL d od hLd hod) j h3
end Go.Am
namespace Go.Am
def isAl : C → Bool
  | .alloc _ | .box _ | .bslice .. | .mksl .. => true
  | _ => false
/-- what is made: the value by the id; the cells -/
def Made (c : C) (st : St) (fr : Fr) (mk : P → V) (cs : List V) : Prop := (∀ h, c.sem st fr h = .ok (mk h.next) (h.alloc (.cells cs false))) ∧ ∀ b, (mk b).blk = some b
theorem mksl_inv {es bytes : Nat} {z : List V} {l c : X} {st : St} {fr : Fr} {h : H} (hs : (cMksl es bytes z l c st fr h).safe) : ∃ ln cn, (l.ev st fr).nat = some ln ∧ (c.ev st fr).nat = some cn ∧ Nat.ble ln cn = true ∧ Nat.ble (Nat.mul cn bytes) 140737488355328 = true ∧ Nat.ble cn 9223372036854775807 = true := by
  unfold cMksl at hs
  obtain ⟨ln, e1, e⟩ := onSome_safe hs
  rw [e] at hs
  obtain ⟨cn, e2, e⟩ := onSome_safe hs
  rw [e] at hs
  obtain ⟨b1, e⟩ := cond_safe hs
  rw [e] at hs
  obtain ⟨b2, e⟩ := cond_safe hs
  rw [e] at hs
  obtain ⟨b3, e⟩ := cond_safe hs
  exact ⟨ln, cn, e1, e2, b1, b2, b3⟩
theorem mksl_made {es bytes : Nat} {z : List V} {l c : X} {st : St} {fr : Fr} {ln cn : Nat} (e1 : (l.ev st fr).nat = some ln) (e2 : (c.ev st fr).nat = some cn) (b1 : Nat.ble ln cn = true) (b2 : Nat.ble (Nat.mul cn bytes) 140737488355328 = true) (b3 : Nat.ble cn 9223372036854775807 = true) :
    Made (.mksl es bytes z l c) st fr (fun b => .sl b 0 ln (.ex cn)) (rep cn z) := by
  refine ⟨fun h => ?_, fun _ => rfl⟩
  show cMksl es bytes z l c st fr h = _
  unfold cMksl
  rw [e1, e2]
  show cond (Nat.ble ln cn) _ _ = _
  rw [b1]
  show cond (Nat.ble (Nat.mul cn bytes) 140737488355328) _ _ = _
  rw [b2]
  show cond (Nat.ble cn 9223372036854775807) _ _ = _
  rw [b3]
  rfl
theorem made_ok {c : C} (hc : isAl c = true) {st : St} {fr : Fr} {h : H} (hs : (c.sem st fr h).safe) : ∃ mk cs, Made c st fr mk cs := by
  cases c <;> try (cases hc; done)
  case alloc z => exact ⟨fun b => .ptr b 0, z, fun _ => rfl, fun _ => rfl⟩
  case box x =>
    have hs : (cBox x st fr h).safe := hs
    unfold cBox at hs
    obtain ⟨cs, hf, e⟩ := onSome_safe hs
    refine ⟨fun b => .ptr b 0, cs, fun h' => ?_, fun _ => rfl⟩
    show onSome (x.ev st fr).flat1 _ = _
    rw [hf]
    rfl
  case bslice es m z ps =>
    have hs : (cBslice es m z ps st fr h).safe := hs
    unfold cBslice at hs
    obtain ⟨cs, hf, e⟩ := onSome_safe hs
    refine ⟨fun b => .sl b 0 m (.ex m), cs, fun h' => ?_, fun _ => rfl⟩
    show onSome (fill ps st fr z) _ = _
    rw [hf]
    rfl
  case mksl es bytes z l c =>
    have hs : (cMksl es bytes z l c st fr h).safe := hs
    obtain ⟨ln, cn, e1, e2, b1, b2, b3⟩ := mksl_inv hs
    exact ⟨fun b => .sl b 0 ln (.ex cn), rep cn z, mksl_made e1 e2 b1 b2 b3⟩
theorem Made.cells_inj {c : C} {st : St} {fr : Fr} {mk mk' : P → V} {cs cs' : List V} (h : Made c st fr mk cs) (k : Made c st fr mk' cs') : cs = cs' ∧ ∀ b, mk b = mk' b := by
  have e : ∀ hh : H, mk hh.next = mk' hh.next ∧ hh.alloc (.cells cs false) = hh.alloc (.cells cs' false) := fun hh => by
    have := (h.1 hh).symm.trans (k.1 hh)
    exact ⟨(R.ok.inj this).1, (R.ok.inj this).2⟩
  refine ⟨?_, fun b => (e ⟨.nil, b⟩).1⟩
  have h1 := congrArg (fun hh => hh.get .z) (e ⟨.nil, .z⟩).2
  simp only [H.get_alloc] at h1
  have h2 : some (Blk.cells cs false) = some (Blk.cells cs' false) := by simpa using h1
  exact (Blk.cells.inj (Option.some.inj h2)).1

section
variable {Pg : Program} {n : Nm} {o : Oper} {a : Act} {κ : Io} {st : St} {fr : Fr}
theorem alloc_run {c : C} (hc : isAl c = true) (hk : chk Pg n o c = true) (e : ER n κ st fr a) {mk : P → V} {cs : List V} (hm : Made c st fr mk cs) :
    ∃ (mkv : Nat → Value) (cs' : Array Value) (e' : TypeId), (∀ w, (execOp a.eval o).run Pg w = .ok (.value (mkv w.heap.size)) (w.alloc (.cells cs' e'))) ∧ CRs κ cs cs'.toList ∧ ∀ (ι' : Io) (b : P) (l : Loc), ι' b = some l → l.d = 0 → VR ι' (mk b) (mkv l.g) := by
  have ptr : ∀ (ι' : Io) (b : P) (l : Loc), ι' b = some l → l.d = 0 → VR ι' (.ptr b 0) (.pointer (some ⟨l.g, 0, none⟩)) := by
    intro ι' b l hl hd
    have := VR.ptr (o := 0) hl
    rw [hd] at this
    exact this
  cases c <;> try (cases hc; done)
  case alloc z =>
    have hm2 : Made (.alloc z) st fr (fun b => .ptr b 0) z := ⟨fun _ => rfl, fun _ => rfl⟩
    obtain ⟨hcs, hmk⟩ := hm.cells_inj hm2
    subst hcs
    have hk : kAlloc Pg o cs = true := hk
    unfold kAlloc at hk
    split at hk
    · rename_i t ho
      split at hk
      · rename_i i hi
        obtain ⟨v, hv, hcr⟩ := zeroOk_ok κ hk
        refine ⟨fun g => .pointer (some ⟨g, 0, none⟩), v.cells, t, fun w => ?_, hcr, fun ι' b l hl hd => by rw [hmk]; exact ptr ι' b l hl hd⟩
        simp [execOp, ho, Instr.alloc, zeroValue, typeInfo, hi, hv, newVar, newRow]
      · cases hk
    · cases hk
  case box x =>
    have h0 := hm.1 ⟨.nil, .z⟩
    have hf : (x.ev st fr).flat1 = some cs ∧ ∀ b, mk b = .ptr b 0 := by
      have hs : (cBox x st fr ⟨.nil, .z⟩).safe := by
        show (C.sem (.box x) st fr ⟨.nil, .z⟩).safe
        rw [h0]; trivial
      unfold cBox at hs
      obtain ⟨cs2, hf, _⟩ := onSome_safe hs
      have hm2 : Made (.box x) st fr (fun b => .ptr b 0) cs2 := ⟨fun h' => by
        show onSome (x.ev st fr).flat1 _ = _
        rw [hf]
        rfl, fun _ => rfl⟩
      obtain ⟨hcs, hmk⟩ := hm.cells_inj hm2
      subst hcs
      exact ⟨hf, hmk⟩
    have hk : kBox n o x = true := hk
    unfold kBox at hk
    split at hk
    · rename_i t y ho
      have hx := okX_ok e hk
      refine ⟨fun g => .pointer (some ⟨g, 0, none⟩), (a.eval y).cells, t, fun w => ?_, hx.flat1 hf.1, fun ι' b l hl hd => by rw [hf.2]; exact ptr ι' b l hl hd⟩
      simp [execOp, ho, Instr.box, newVar, newRow]
    · cases hk
  case bslice es m z ps =>
    have h0 := hm.1 ⟨.nil, .z⟩
    have hf : fill ps st fr z = some cs ∧ ∀ b, mk b = .sl b 0 m (.ex m) := by
      have hs : (cBslice es m z ps st fr ⟨.nil, .z⟩).safe := by
        show (C.sem (.bslice es m z ps) st fr ⟨.nil, .z⟩).safe
        rw [h0]; trivial
      unfold cBslice at hs
      obtain ⟨cs2, hf, _⟩ := onSome_safe hs
      have hm2 : Made (.bslice es m z ps) st fr (fun b => .sl b 0 m (.ex m)) cs2 := ⟨fun h' => by
        show onSome (fill ps st fr z) _ = _
        rw [hf]
        rfl, fun _ => rfl⟩
      obtain ⟨hcs, hmk⟩ := hm.cells_inj hm2
      subst hcs
      exact ⟨hf, hmk⟩
    have hk : kBslice Pg n o es m z ps = true := hk
    unfold kBslice at hk
    split at hk
    · rename_i t m' ps' ho
      simp only [Bool.and_eq_true] at hk
      obtain ⟨⟨⟨h1, h2⟩, h3⟩, hk⟩ := hk
      obtain rfl := beq_spec h1
      rw [natBle_iff] at h2 h3
      split at hk
      · rename_i e' ht
        split at hk
        · rename_i ie hi
          split at hk
          · rename_i zv hzv
            simp only [Bool.and_eq_true] at hk
            have hes := beq_spec hk.1.1
            obtain ⟨cells', e2, hcr⟩ := fill_ok e hk.2 (con1s_ok κ hk.1.2) hf.1
            refine ⟨fun g => .slice (some ⟨g, 0, none⟩) m m, cells', e', fun w => ?_, hcr, fun ι' b l hl hd => by
              rw [hf.2]
              exact .sl hl (Nat.le_refl _) h3 rfl (.inl (by rw [hd]))⟩
            have h24 : ¬ m * es > 2 ^ 24 := by omega
            by_cases hz0 : m * es = 0
            · rw [hz0] at e2
              simp [Array.range_zero'] at e2
              simp [execOp, ho, Instr.buildSlice, run_underlying ht, sizeOf, typeInfo, zeroValue, hi, hzv, hes, hz0, newRow, Array.range_zero', e2]
            · have := run_buildSlice (P := Pg) w t e' m (ps'.map fun p => (p.1, a.eval p.2)) cells' ie zv ht hi hzv (by rw [hes]; exact h24) (by rw [hes]; exact hz0) (by rw [Array.toList_map, hes]; exact e2)
              simp [execOp, ho, this]
          · cases hk
        · cases hk
      · cases hk
    · cases hk
  case mksl es bytes z l c =>
    have h0 := hm.1 ⟨.nil, .z⟩
    have hs : (cMksl es bytes z l c st fr ⟨.nil, .z⟩).safe := by
      show (C.sem (.mksl es bytes z l c) st fr ⟨.nil, .z⟩).safe
      rw [h0]; trivial
    obtain ⟨ln, cn, e1, e2, b1, b2, b3⟩ := mksl_inv hs
    obtain ⟨hcs, hmk⟩ := hm.cells_inj (mksl_made e1 e2 b1 b2 b3)
    subst hcs
    have hk : kMksl Pg n o es bytes z l c = true := hk
    unfold kMksl at hk
    split at hk
    · rename_i t l' c' ho
      simp only [Bool.and_eq_true] at hk
      obtain ⟨⟨k1, k2⟩, hk⟩ := hk
      split at hk
      · rename_i e' ht
        split at hk
        · rename_i ie hi
          split at hk
          · rename_i zv hzv
            simp only [Bool.and_eq_true] at hk
            obtain ⟨⟨⟨q1, q2⟩, q3⟩, q4⟩ := hk
            have hes := beq_spec q1
            have hby := beq_spec q2
            have hzs := beq_spec q3
            rw [natBle_iff] at b1 b2 b3
            have b2 : cn * bytes ≤ 140737488355328 := b2
            obtain ⟨kl, hl'⟩ := nat_inv (okX_ok e k1) e1
            obtain ⟨kc, hc'⟩ := nat_inv (okX_ok e k2) e2
            have hcells : CRs κ (rep cn z) (madeCells zv.cells (cn * es)).toList := by
              by_cases h0 : cn * es = 0
              · have : rep cn z = [] := by
                  apply List.eq_nil_of_length_eq_zero
                  rw [rep_length]
                  have := (con1s_ok κ q4).1.1
                  simp at this
                  rw [this, hzs, h0]
                rw [this, h0]
                simp [madeCells, Array.range_zero']
                exact ⟨VRs.nil κ, by simp⟩
              · exact madeCells_rel q4 hzs h0
            refine ⟨fun g => .slice (some ⟨g, 0, none⟩) ln cn, madeCells zv.cells (cn * es), e', fun w => ?_, hcells, fun ι' b l hl hd => by
              rw [hmk]
              exact .sl hl b1 (by simp only [maxLen]; omega) rfl (.inl (by rw [hd]))⟩
            have hrun := run_make (P := Pg) w t e' ie zv ht hi hzv kl kc ln cn (by omega) (by omega) (by rw [hby, Nat.mul_comm] at *; omega) (by omega)
            simp only [Int.toNat_natCast, hes] at hrun
            simp [execOp, ho, hl', hc', hrun]
          · cases hk
        · cases hk
      · cases hk
    · cases hk
end
end Go.Am
namespace Go.Am

abbrev NL := List (Nat × Option Tmp)
/-- the names that an operation may look at: those it has to wait for -/
def rst (nm : NL) (m : Nat) : List (Option Nat) := nm.map fun q => cond (Nat.testBit m q.1) q.2 none
def nmFor (n0 : Nm) (nm : NL) (m : Nat) : Nm := { n0 with names := rst nm m }
/-- does an operation that does not wait for i write t? -/
def wrAt (ops : Array Oper) (ms : List Nat) (i t : Nat) : Bool := (List.range ops.size).any fun j => (match dstOf ops j with | some u => Nat.beq u t | none => false) && !(Nat.testBit (ms.getD j 0) i)
/-- what operation i may look at: the names that it has to wait for; the slots that nobody has written before it -/
def nmI (ops : Array Oper) (ms : List Nat) (n0 : Nm) (nm : NL) (i : Nat) : Nm := { n0 with names := rst nm (ms.getD i 0), dirty := n0.dirty.filter (wrAt ops ms i) }
def idxAt (nm : NL) (k : I) : Option Nat := (nm[k.num]?).map (·.1)
def freshOp (nm : NL) (i : Nat) (d : Option Tmp) : Bool := nm.all fun q => !(Nat.beq q.1 i) && (match d with | some t => (match q.2 with | some u => !(Nat.beq t u) | none => true) | none => true)
def isRdIt : It → Bool
  | .op c => isRd c
  | .gop _ _ c => isRd c
  | _ => false
def isPuIt : It → Bool
  | .op c => isPu c
  | .gop _ _ c => isPu c
  | _ => false
def endOk (n0 : Nm) (nm : NL) : List It → List Nat → Bool
  | [], dirty => dirty.isEmpty
  | .slot p k :: its, dirty => (match nm[k.num]? with | some q => decide (q.2 = some p.num) | none => false) && n0.kept.contains p.num && endOk n0 nm its (dirty.filter (fun t => !(Nat.beq t p.num)))
  | _ :: _, _ => false

section
variable (ck : Nm → Oper → C → Bool) (ops : Array Oper) (ms : List Nat) (n0 : Nm)
/-- a recheck of a read -/
def reOk (nam : List Nat) (nm : NL) (r : Nat) (it : It) : Bool := !(nam.contains r) && match ops[r]? with
  | some o => (match it with
    | .re c k => decide (idxAt nm k = some r) && o.guard.isNone && isRd c && ck (nmI ops ms n0 nm r) o c
    | .gre g w c k => decide (idxAt nm k = some r) && isRd c && guardOk ops (nmI ops ms n0 nm r) o g w && ck (nmI ops ms n0 nm r) o c
    | _ => false)
  | none => false
def nameOk (nm : NL) (i : Nat) (c : C) : Bool := match ops[i]? with
  | some o => dstOk n0 o && freshOp nm i o.dst && o.guard.isNone && isAl c && ck (nmI ops ms n0 nm i) o c
  | none => false
def initOk (nm : NL) (nam : List Nat) (k : I) : Bool := match idxAt nm k with
  | some r => nam.contains r
  | none => false
def opOk (nm : NL) (i : Nat) (it : It) : Bool := match ops[i]? with
  | some o => dstOk n0 o && freshOp nm i o.dst && okIt ck ops (nmI ops ms n0 nm i) o it
  | none => false
def dOf (i : Nat) : Option Tmp := dstOf ops i
/-- 'todo': reads to be checked again; 'rds': reads that may be late; 'ini': blocks put in place for the next effect; 'nam': ids whose block is not in place -/
def okDr : List Nat → List Nat → List Nat → List Nat → NL → List It → List Nat → Bool
  | r :: todo, rds, ini, nam, nm, it :: its, ord => reOk ck ops ms n0 nam nm r it && okDr todo rds ini nam nm its ord
  | _ :: _, _, _, _, _, [], _ => false
  | [], rds, ini, nam, nm, .name c :: its, i :: ord => ini.isEmpty && nameOk ck ops ms n0 nm i c && okDr [] rds [] (i :: nam) ((i, dOf ops i) :: nm) its ord
  | [], rds, ini, nam, nm, .init k :: its, ord => initOk nm nam k && okDr [] rds ((idxAt nm k).getD 0 :: ini) (nam.filter (fun j => !(Nat.beq j ((idxAt nm k).getD 0)))) nm its ord
  | [], rds, ini, nam, nm, it :: its, i :: ord => opOk ck ops ms n0 nm i it && cond (isPuIt it || isRdIt it)
      (ini.isEmpty && okDr [] (cond (isRdIt it) (i :: rds) rds) [] nam ((i, dOf ops i) :: nm) its ord)
      (ord.all (fun j => Nat.testBit (ms.getD j 0) i) && ini.all (fun j => Nat.testBit (ms.getD i 0) j) &&
        okDr (rds.filter (fun r => !(Nat.testBit (ms.getD i 0) r))) (rds.filter (fun r => !(Nat.testBit (ms.getD i 0) r))) [] nam ((i, dOf ops i) :: nm) its ord)
  | [], _, _, nam, nm, its, [] => nam.isEmpty && (List.range ops.size).all (fun i => nm.any (fun q => Nat.beq q.1 i)) && endOk n0 nm its n0.dirty
  | _, _, _, _, _, _, _ => false
end
def dstsOf (ops : Array Oper) : List Tmp := ops.toList.filterMap (·.dst)
def okD (Pg : Program) (n : Nm) (ord : List Nat) (ops : Array Oper) (its : List It) : Bool :=
  Pg.follows .mixedOrders && depsOk ops.toList 0 && (let ms := masks ops.toList []; okDr (chk Pg) ops ms { n with dirty := (dstsOf ops).filter (fun t => n.kept.contains t) } [] [] [] [] [] its ord)
end Go.Am
namespace Go.Am

mutual
theorem V.beq_eq : ∀ (v v' : V), v.beq v' = true → v = v'
  | .int k n, v', h => by
    cases v' <;> simp [V.beq] at h
    obtain ⟨h1, h2⟩ := h
    rw [(kEq_iff _ _).1 h1, (intEq_iff _ _).1 h2]
  | .bool a, v', h => by
    cases v' <;> simp [V.beq] at h
    rename_i b
    cases a <;> cases b <;> simp_all
  | .str a, v', h => by cases v' <;> simp [V.beq] at h; rw [h]
  | .nil, v', h => by cases v' <;> simp [V.beq] at h; rfl
  | .nilsl, v', h => by cases v' <;> simp [V.beq] at h; rfl
  | .nilmap, v', h => by cases v' <;> simp [V.beq] at h; rfl
  | .nilfn, v', h => by cases v' <;> simp [V.beq] at h; rfl
  | .niliface, v', h => by cases v' <;> simp [V.beq] at h; rfl
  | .ptr b o, v', h => by
    cases v' <;> simp [V.beq] at h
    rw [h.1, h.2]
  | .sl b o n c, v', h => by
    cases v' <;> simp [V.beq] at h
    obtain ⟨⟨⟨rfl, h1⟩, h2⟩, rfl⟩ := h
    rw [h1, h2]
  | .map b, v', h => by cases v' <;> simp [V.beq] at h; rw [h]
  | .fn f x c, v', h => by
    cases v' <;> simp [V.beq] at h
    obtain ⟨⟨rfl, h1⟩, h2⟩ := h
    rw [V.beqs_eq _ _ h1, V.beqs_eq _ _ h2]
  | .iface t v, v', h => by
    cases v' <;> simp [V.beq] at h
    rw [h.1, V.beq_eq _ _ h.2]
  | .agg x, v', h => by cases v' <;> simp [V.beq] at h; rw [V.beqs_eq _ _ h]
  | .tup x, v', h => by cases v' <;> simp [V.beq] at h; rw [V.beqs_eq _ _ h]
  | .undef, v', h => by cases v' <;> simp [V.beq] at h
  | .junk, v', h => by cases v' <;> simp [V.beq] at h
theorem V.beqs_eq : ∀ (v v' : List V), V.beqs v v' = true → v = v'
  | [], v', h => by cases v' <;> simp [V.beqs] at h; rfl
  | a :: x, v', h => by
    cases v' <;> simp [V.beqs] at h
    rw [V.beq_eq _ _ h.1, V.beqs_eq _ _ h.2]
end

/-- operation i, that writes d, has the value v -/
def Has (nm : NL) (st : St) (i : Nat) (d : Option Tmp) (v : V) : Prop := ∃ k : Nat, nm[k]? = some (i, d) ∧ st[k]? = some v
theorem Has.old {nm : NL} {st : St} {i : Nat} {d : Option Tmp} {v : V} (q : Nat × Option Tmp) (u : V) (h : Has nm st i d v) : Has (q :: nm) (u :: st) i d v := by
  obtain ⟨k, h1, h2⟩ := h
  exact ⟨k + 1, by simpa using h1, by simpa using h2⟩
theorem Has.new (nm : NL) (st : St) (i : Nat) (d : Option Tmp) (v : V) : Has ((i, d) :: nm) (v :: st) i d v := ⟨0, rfl, rfl⟩
theorem Has.inv {nm : NL} {st : St} {i j : Nat} {d e : Option Tmp} {v u : V} (h : Has ((j, e) :: nm) (u :: st) i d v) : (i = j ∧ d = e ∧ v = u) ∨ Has nm st i d v := by
  obtain ⟨k, h1, h2⟩ := h
  cases k with
  | zero =>
    simp at h1 h2
    exact .inl ⟨h1.1.symm, h1.2.symm, h2.symm⟩
  | succ k => exact .inr ⟨k, by simpa using h1, by simpa using h2⟩
def Suf (nm' : NL) (st' : St) (nm : NL) (st : St) : Prop := nm'.length = st'.length ∧ ∀ i d v, Has nm' st' i d v → Has nm st i d v
theorem Suf.refl {nm : NL} {st : St} (h : nm.length = st.length) : Suf nm st nm st := ⟨h, fun _ _ _ h => h⟩
theorem Suf.cons {nm' nm : NL} {st' st : St} (s : Suf nm' st' nm st) (q : Nat × Option Tmp) (u : V) : Suf nm' st' (q :: nm) (u :: st) := ⟨s.1, fun i d v h => (s.2 i d v h).old q u⟩

/-- what of a reached set the temporaries hold -/
structure Holds (ops : Array Oper) (a0 : Act) (nm : NL) (st : St) (κ : Io) (L : Nat → Prop) (a : Act) : Prop where
  val : ∀ i d v t, Has nm st i d v → L i → d = some t → VR κ v (a.tmps.getD t undef)
  oth : ∀ t, (∀ i, L i → dstOf ops i ≠ some t) → a.tmps.getD t undef = a0.tmps.getD t undef
  size : a.tmps.size = a0.tmps.size

theorem Holds.er {ops : Array Oper} {a0 a : Act} {nm nm' : NL} {st st' : St} {κ ι0 : Io} {L : Nat → Prop} {nb n0 : Nm} {fr0 : Fr} {m : Nat} (hh : Holds ops a0 nm st κ L a) (e0 : ER nb ι0 [] fr0 a0) (hb : nb.dirty = []) (hn : n0 = { nb with dirty := (dstsOf ops).filter (fun t => nb.kept.contains t) })
    (hext : ι0.le κ) (hs : Suf nm' st' nm st) (hanc : ∀ j, m.testBit j = true → L j) : ER (nmFor n0 nm' m) κ st' fr0 a := by
  subst hn
  refine ⟨by simp [nmFor, rst, hs.1], ?_, ?_, ?_, hh.size.trans e0.size⟩
  · intro i v t h1 h2 _
    simp only [nmFor, rst, List.getElem?_map] at h2
    cases hq : nm'[i]? with
    | none => rw [hq] at h2; cases h2
    | some q =>
      obtain ⟨j, d⟩ := q
      rw [hq] at h2
      have h2 : (cond (m.testBit j) d none : Option Tmp) = some t := Option.some.inj h2
      cases hb2 : m.testBit j with
      | false => rw [hb2] at h2; cases h2
      | true =>
        rw [hb2] at h2
        exact hh.val j d v t (hs.2 j d v ⟨i, hq, h1⟩) (hanc j hb2) h2
  · intro p v hp
    obtain ⟨h1, h2⟩ := e0.fr p v hp
    refine ⟨h1, fun hnd => ?_⟩
    have h3 := (h2 (by rw [hb]; simp)).mono hext
    rw [hh.oth p.num (fun i _ hd => hnd ?_)]
    · exact h3
    · show p.num ∈ (dstsOf ops).filter (fun t => nb.kept.contains t)
      refine List.mem_filter.2 ⟨?_, by simpa using h1⟩
      unfold dstOf at hd
      cases ho : ops[i]? with
      | none => rw [ho] at hd; cases hd
      | some o =>
        rw [ho] at hd
        exact List.mem_filterMap.2 ⟨o, by simpa using Array.mem_of_getElem? ho, hd⟩
  · intro p hp
    obtain ⟨l, e1, e2⟩ := e0.glob p hp
    exact ⟨l, hext _ _ e1, e2⟩

theorem Holds.erI {ops : Array Oper} {a0 a : Act} {nm nm' : NL} {st st' : St} {κ ι0 : Io} {L : Nat → Prop} {nb n0 : Nm} {fr0 : Fr} {i : Nat} (hh : Holds ops a0 nm st κ L a) (e0 : ER nb ι0 [] fr0 a0) (hb : nb.dirty = []) (hn : n0 = { nb with dirty := (dstsOf ops).filter (fun t => nb.kept.contains t) })
    (hext : ι0.le κ) (hs : Suf nm' st' nm st) (hanc : ∀ j, ((masks ops.toList []).getD i 0).testBit j = true → L j) (hcl : ∀ j, L j → ((masks ops.toList []).getD j 0).testBit i = false) : ER (nmI ops (masks ops.toList []) n0 nm' i) κ st' fr0 a := by
  have e := Holds.er hh e0 hb hn hext hs hanc
  refine ⟨e.len, e.st, ?_, e.glob, e.size⟩
  intro p v hp
  obtain ⟨h1, h2⟩ := e0.fr p v hp
  refine ⟨(e.fr p v hp).1, fun hnd => ?_⟩
  have h3 := (h2 (by rw [hb]; simp)).mono hext
  rw [hh.oth p.num (fun j hj hd => hnd ?_)]
  · exact h3
  · subst hn
    have hlt : ∃ o, ops[j]? = some o ∧ o.dst = some p.num := by
      unfold dstOf at hd
      cases ho : ops[j]? with
      | none => rw [ho] at hd; cases hd
      | some o => rw [ho] at hd; exact ⟨o, rfl, hd⟩
    obtain ⟨o, ho, hod⟩ := hlt
    show p.num ∈ ((dstsOf ops).filter (fun t => nb.kept.contains t)).filter (wrAt ops (masks ops.toList []) i)
    refine List.mem_filter.2 ⟨List.mem_filter.2 ⟨List.mem_filterMap.2 ⟨o, by simpa using Array.mem_of_getElem? ho, hod⟩, by simpa using h1⟩, ?_⟩
    unfold wrAt
    rw [List.any_eq_true]
    refine ⟨j, List.mem_range.2 (Array.getElem?_eq_some_iff.1 ho).1, ?_⟩
    rw [hcl j hj, hd]
    simp [natBeq_iff]

/-- what is asked of nobody but the values -/
theorem guard_pur {g : V} {w : Bool} {f : H → R} (hf : Pur f) : Pur (fun h => onGuard g w (f h) (.ok (.tup []) h)) := by
  cases g <;> try exact .no
  case bool t =>
    show Pur (fun h => cond (Bool.casesOn (motive := fun _ => Bool) t (!w) w) (f h) (.ok (.tup []) h))
    exact Pur.cond hf (.ok _)
  case tup l =>
    cases l with
    | nil => exact .ok _
    | cons => exact .no
theorem puIt_ok {cf : CallF} {it : It} (hp : isPuIt it = true) {st : St} {fr : Fr} {h : H} (hs : (it.res cf st fr h).safe) : ∃ v, ∀ h', it.res cf st fr h' = .ok v h' := by
  have key : Pur (it.res cf st fr) := by
    cases it <;> try (cases hp; done)
    case op c => exact isPu_ok hp st fr
    case gop g w c => exact guard_pur (isPu_ok hp st fr)
  rcases key with h0 | h1
  · rw [h0] at hs; exact hs.elim
  · exact h1
theorem rdIt_ok {cf : CallF} {it : It} (hp : isRdIt it = true) {st : St} {fr : Fr} {h : H} (hs : (it.res cf st fr h).safe) : ∃ v, it.res cf st fr h = .ok v h ∧ ∀ h', Sub h h' → it.res cf st fr h' = .ok v h' := by
  cases it <;> try (cases hp; done)
  case op c => exact isRd_ok hp hs
  case gop g w c =>
    have hs : (onGuard (nthI .junk g st) w (c.sem st fr h) (.ok (.tup []) h)).safe := hs
    show ∃ v, onGuard (nthI .junk g st) w (c.sem st fr h) (.ok (.tup []) h) = .ok v h ∧ ∀ h', Sub h h' → onGuard (nthI .junk g st) w (c.sem st fr h') (.ok (.tup []) h') = .ok v h'
    generalize nthI V.junk g st = gv at hs ⊢
    cases gv <;> try (exact hs.elim)
    case bool t =>
      have hs : (cond (Bool.casesOn (motive := fun _ => Bool) t (!w) w) (c.sem st fr h) (.ok (.tup []) h)).safe := hs
      show ∃ v, cond (Bool.casesOn (motive := fun _ => Bool) t (!w) w) (c.sem st fr h) (.ok (.tup []) h) = .ok v h ∧ ∀ h', Sub h h' → cond (Bool.casesOn (motive := fun _ => Bool) t (!w) w) (c.sem st fr h') (.ok (.tup []) h') = .ok v h'
      cases hb : (Bool.casesOn (motive := fun _ => Bool) t (!w) w : Bool) with
      | true => rw [hb] at hs; exact isRd_ok hp hs
      | false => exact ⟨_, rfl, fun _ _ => rfl⟩
    case tup l =>
      cases l with
      | nil => exact ⟨_, rfl, fun _ _ => rfl⟩
      | cons => exact hs.elim
end Go.Am
namespace Go.Am

/-- made, and not yet in place -/
structure Pend (κ : Io) (h : H) (w : World) (w0 : World) (h0 : H) (b : P) (l : Loc) : Prop where
  io : κ b = some l
  d : l.d = 0
  out : ¬ Dom κ h l.g
  late : w0.heap.size ≤ l.g
  id : h0.next.num ≤ b.num
  blk : ∃ (cs : List V) (cs' : Array Value), h.get b = some (.dead cs) ∧ w.heap[l.g]? = some (.cells cs' l.e (0, 0)) ∧ cs'.size = l.tot ∧ CRs κ cs cs'.toList

theorem absorb {ι0 κ : Io} {h0 h : H} {w0 w : World} {b : P} {l : Loc} {cs : List V} (hr0 : Rel ι0 h0 w0) (s : Step ι0 h0 w0 κ h w) (p : Pend κ h w w0 h0 b l) (hb : h.get b = some (.dead cs)) : Step ι0 h0 w0 κ (h.put b (.cells cs false)) w := by
  have r := s.rel
  obtain ⟨cs1, cs', hb1, hw, hsz, hc⟩ := p.blk
  rw [hb] at hb1
  obtain rfl := Blk.dead.inj (Option.some.inj hb1)
  refine ⟨s.ext, ⟨?_, ?_, r.fresh, ?_⟩, s.size, s.keep, ?_, ?_, s.next, s.new, ?_, s.os, s.tape, s.output⟩
  · intro c x hx ha
    rw [H.get_put] at hx
    split at hx
    · subst_vars
      obtain rfl := Option.some.inj hx
      have hlen := hc.1.1
      refine ⟨l, _, p.io, hw, .cells hsz (by rw [p.d]; simp at hlen; omega) (fun _ j _ => by simp) fun j v hj => ?_⟩
      obtain ⟨v', h1, h2⟩ := hc.1.get hj
      exact ⟨v', by rw [p.d]; simpa using h1, h2, hc.2 v' (List.mem_of_getElem? h1)⟩
    · exact r.blk c x hx ha
  · intro c d x y m n hx hy hwr hal hne em en
    rw [H.get_put] at hx hy
    by_cases hcb : b = c
    · subst hcb
      rw [if_neg hne] at hy
      rw [p.io] at em
      obtain rfl := Option.some.inj em
      exact fun e => p.out ⟨d, y, n, hy, hal, en, e.symm⟩
    · rw [if_neg hcb] at hx
      by_cases hdb : b = d
      · subst hdb
        rw [p.io] at en
        obtain rfl := Option.some.inj en
        exact fun e => p.out ⟨c, x, m, hx, Blk.wr_alive hwr, em, e⟩
      · rw [if_neg hdb] at hy
        exact r.apart c d x y m n hx hy hwr hal hne em en
  · intro c x hx
    rw [H.get_put] at hx
    split at hx
    · subst_vars; exact r.dom _ _ hb
    · exact r.dom c x hx
  · rintro g ⟨c, x, m, hx, hwr, em, rfl⟩
    rw [H.get_put] at hx
    split at hx
    · subst_vars
      rw [p.io] at em
      obtain rfl := Option.some.inj em
      exact .inr p.late
    · exact s.own _ ⟨c, x, m, hx, hwr, em, rfl⟩
  · rintro g ⟨c, x, m, hx, hal, em, rfl⟩
    rw [H.get_put] at hx
    split at hx
    · subst_vars
      rw [p.io] at em
      obtain rfl := Option.some.inj em
      exact .inr p.late
    · exact s.dom _ ⟨c, x, m, hx, hal, em, rfl⟩
  · intro c cs2 hc2
    rw [H.get_put, if_neg (fun e => by have h1 := hr0.dom c _ hc2; rw [← e] at h1; have := p.id; omega)]
    exact s.gone c cs2 hc2
/-- another one stays as it is -/
theorem Pend.other {κ : Io} {h : H} {w w0 : World} {h0 : H} {b b2 : P} {l l2 : Loc} {cs : List V} (p : Pend κ h w w0 h0 b l) (hne : b2 ≠ b) (hio : κ b2 = some l2) (hg : l2.g ≠ l.g) : Pend κ (h.put b2 (.cells cs false)) w w0 h0 b l := by
  refine ⟨p.io, p.d, ?_, p.late, p.id, ?_⟩
  · rintro ⟨c, x, m, hx, hal, em, e⟩
    rw [H.get_put] at hx
    split at hx
    · subst_vars
      rw [hio] at em
      obtain rfl := Option.some.inj em
      exact hg e
    · exact p.out ⟨c, x, m, hx, hal, em, e⟩
  · obtain ⟨cs1, cs', h1, h2⟩ := p.blk
    exact ⟨cs1, cs', by rw [H.get_put, if_neg hne]; exact h1, h2⟩
/-- what an operation does leaves it alone -/
theorem Pend.step {κ κ' : Io} {h h' : H} {w w' w0 : World} {h0 : H} {b : P} {l : Loc} (p : Pend κ h w w0 h0 b l) (s : Step κ h w κ' h' w') : Pend κ' h' w' w0 h0 b l := by
  obtain ⟨cs, cs', h1, h2, h3, h4⟩ := p.blk
  have hlt : l.g < w.heap.size := (Array.getElem?_eq_some_iff.1 h2).1
  refine ⟨s.ext _ _ p.io, p.d, fun hd => (s.dom _ hd).elim p.out (fun h => by omega), p.late, p.id, cs, cs', s.gone b cs h1, ?_, h3, h4.mono s.ext⟩
  rw [s.keep l.g hlt (fun ho => p.out ho.dom)]
  exact h2
/-- made now -/
theorem made_now {ι0 κ : Io} {h0 h : H} {w0 w : World} {b : P} {cs : List V} {cs' : Array Value} {e' : TypeId} (s : Step ι0 h0 w0 κ h w) (hb : h.get b = some (.dead cs)) (hk : κ b = none) (hid : h0.next.num ≤ b.num) (hc : CRs κ cs cs'.toList) :
    let κ1 := κ.add b ⟨w.heap.size, 0, cs'.size, e'⟩
    κ.le κ1 ∧ Step ι0 h0 w0 κ1 h (w.alloc (.cells cs' e')) ∧ Pend κ1 h (w.alloc (.cells cs' e')) w0 h0 b ⟨w.heap.size, 0, cs'.size, e'⟩ := by
  intro κ1
  have r := s.rel
  have hext : κ.le κ1 := by
    intro c m hm
    show (if c = b then _ else κ c) = _
    rw [if_neg (fun e => by rw [e, hk] at hm; cases hm)]
    exact hm
  have hold : ∀ c x m, h.get c = some x → x.alive = true → κ1 c = some m → κ c = some m := by
    intro c x m hx ha hm
    have hm : (if c = b then _ else κ c) = some m := hm
    rw [if_neg (fun e => by rw [e, hb] at hx; obtain rfl := Option.some.inj hx; cases ha)] at hm
    exact hm
  have hheap : (w.alloc (.cells cs' e')).heap = w.heap.push (.cells cs' e') := rfl
  have hrel : Rel κ1 h (w.alloc (.cells cs' e')) := by
    refine ⟨?_, ?_, ?_, r.dom⟩
    · intro c x hx ha
      obtain ⟨m, o, h1, h2, h3⟩ := r.blk c x hx ha
      refine ⟨m, o, hext _ _ h1, ?_, h3.mono hext⟩
      rw [hheap, Array.getElem?_push, if_neg (by have := (Array.getElem?_eq_some_iff.1 h2).1; omega)]
      exact h2
    · intro c d x y m n hx hy hwr hal hne em en
      exact r.apart c d x y m n hx hy hwr hal hne (hold c x m hx (Blk.wr_alive hwr) em) (hold d y n hy hal en)
    · intro c m hm
      have hm : (if c = b then _ else κ c) = some m := hm
      split at hm
      · subst_vars; exact r.dom _ _ hb
      · exact r.fresh c m hm
  refine ⟨hext, ⟨Io.le_trans s.ext hext, hrel, by rw [hheap]; simp; have := s.size; omega, ?_, ?_, ?_, s.next, ?_, s.gone, s.os, s.tape, s.output⟩, ⟨if_pos rfl, rfl, ?_, s.size, hid, cs, cs', hb, by rw [hheap]; simp, rfl, hc.mono hext⟩⟩
  · intro g hg hn
    rw [hheap, Array.getElem?_push, if_neg (by have := s.size; omega)]
    exact s.keep g hg hn
  · rintro g ⟨c, x, m, hx, hwr, em, rfl⟩
    exact s.own _ ⟨c, x, m, hx, hwr, hold c x m hx (Blk.wr_alive hwr) em, rfl⟩
  · rintro g ⟨c, x, m, hx, hal, em, rfl⟩
    exact s.dom _ ⟨c, x, m, hx, hal, hold c x m hx hal em, rfl⟩
  · intro c m hm
    have hm : (if c = b then _ else κ c) = some m := hm
    split at hm
    · subst_vars; exact .inr hid
    · exact s.new c m hm
  · rintro ⟨c, x, m, hx, hal, em, e⟩
    have h1 := hold c x m hx hal em
    have := r.lt hx hal h1
    have e : m.g = w.heap.size := e
    omega
/-- another one stays as it is -/
theorem Pend.made {κ : Io} {h : H} {w w0 : World} {h0 : H} {b b2 : P} {l l2 : Loc} {o : Obj} {cs2 : List V} (p : Pend κ h w w0 h0 b l) (hne : b2 ≠ b) (hb2 : h.get b2 = some (.dead cs2)) (hext : κ.le (κ.add b2 l2)) : Pend (κ.add b2 l2) h (w.alloc o) w0 h0 b l := by
  obtain ⟨cs, cs', h1, h2, h3, h4⟩ := p.blk
  refine ⟨hext _ _ p.io, p.d, ?_, p.late, p.id, cs, cs', h1, ?_, h3, h4.mono hext⟩
  · rintro ⟨c, x, m, hx, hal, em, e⟩
    have em : (if c = b2 then _ else κ c) = some m := em
    rw [if_neg (fun e => by rw [e, hb2] at hx; obtain rfl := Option.some.inj hx; cases hal)] at em
    exact p.out ⟨c, x, m, hx, hal, em, e⟩
  · show (w.heap.push o)[l.g]? = _
    rw [Array.getElem?_push, if_neg (by have := (Array.getElem?_eq_some_iff.1 h2).1; omega)]
    exact h2
end Go.Am
namespace Go.Am
section
variable (Pg : Program) (ops : Array Oper) (cf : CallF) (n0 : Nm) (ι0 : Io) (h0 : H) (w0 : World) (fr0 : Fr) (a0 : Act)

def mOf (i : Nat) : Nat := (masks ops.toList []).getD i 0
def OweQ (nm : NL) (st : St) (rds nam : List Nat) (h : H) (i : Nat) (v : V) : Prop :=
  i ∉ nam ∧ ∃ nm' st' it o, Suf nm' st' nm st ∧ ops[i]? = some o ∧ okIt (chk Pg) ops (nmI ops (masks ops.toList []) n0 nm' i) o it = true ∧
    ((isPuIt it = true ∧ ∀ h', it.res cf st' fr0 h' = .ok v h') ∨ (isRdIt it = true ∧ i ∈ rds ∧ ∀ h', Sub h h' → it.res cf st' fr0 h' = .ok v h'))
def OweN (nm : NL) (st : St) (nam : List Nat) (h : H) (κ : Io) (i : Nat) (v : V) : Prop :=
  ∃ nm' st' c o mk cs b, Suf nm' st' nm st ∧ ops[i]? = some o ∧ o.guard = none ∧ isAl c = true ∧ chk Pg (nmI ops (masks ops.toList []) n0 nm' i) o c = true ∧ Made c st' fr0 mk cs ∧ v = mk b ∧ h.get b = some (.dead cs) ∧ κ b = none ∧ h0.next.num ≤ b.num ∧ i ∈ nam

structure Inv (todo rds nam : List Nat) (nm : NL) (st : St) (h : H) (κ : Io) (L : Nat → Prop) (a : Act) (w : World) : Prop where
  len : nm.length = st.length
  dst : ∀ i d v, Has nm st i d v → d = dstOf ops i ∧ ∃ o, ops[i]? = some o ∧ dstOk n0 o = true
  uniq : ∀ i d v d' v', Has nm st i d v → Has nm st i d' v' → v = v'
  udst : ∀ i j t v v', Has nm st i (some t) v → Has nm st j (some t) v' → i = j
  sub : ∀ i, L i → ∃ d v, Has nm st i d v
  hold : Holds ops a0 nm st κ L a
  defers : a.defers = a0.defers
  step : Step ι0 h0 w0 κ h w
  owe : ∀ i d v, Has nm st i d v → ¬ L i → i ∉ todo → OweQ Pg ops cf n0 fr0 nm st rds nam h i v ∨ OweN Pg ops n0 h0 fr0 nm st nam h κ i v
  nams : ∀ i, i ∈ nam → ∃ d v b, Has nm st i d v ∧ v.blk = some b ∧ ∃ cs, h.get b = some (.dead cs) ∧ (L i → ∃ l, Pend κ h w w0 h0 b l)
  ndis : ∀ i j d d' v v' b b', i ∈ nam → j ∈ nam → i ≠ j → Has nm st i d v → Has nm st j d' v' → v.blk = some b → v'.blk = some b' → b ≠ b' ∧ ∀ l l', L i → L j → κ b = some l → κ b' = some l' → l.g ≠ l'.g
end

section
variable {Pg : Program} {ops : Array Oper} {cf : CallF} {nb n0 : Nm} {ι0 : Io} {h0 : H} {w0 : World} {fr0 : Fr} {a0 : Act}
variable {todo rds nam : List Nat} {nm : NL} {st : St} {h : H} {κ : Io} {L : Nat → Prop} {a : Act} {w : World}

/-- one more is reached, and its value is where it belongs -/
theorem Holds.more {κ' : Io} {i : Nat} {o : Oper} {v : V} {v' : Value} (hh : Holds ops a0 nm st κ L a) (hext : κ.le κ') (ho : ops[i]? = some o) (hsz : ∀ t, o.dst = some t → t < a.tmps.size)
    (hi : ∃ d, Has nm st i d v) (hdst : ∀ i d v, Has nm st i d v → d = dstOf ops i) (huniq : ∀ i d v d' v', Has nm st i d v → Has nm st i d' v' → v = v') (hud : ∀ i j t v v', Has nm st i (some t) v → Has nm st j (some t) v' → i = j) (hv : VR κ' v v') :
    Holds ops a0 nm st κ' (fun j => L j ∨ j = i) (a.put o.dst v') := by
  obtain ⟨d0, hi⟩ := hi
  have hd0 : dstOf ops i = o.dst := by unfold dstOf; rw [ho]; rfl
  refine ⟨?_, ?_, Act.put_size.trans hh.size⟩
  · intro j d u t hj hl hd
    subst hd
    rcases hl with hl | rfl
    · by_cases hji : j = i
      · subst hji
        have hot : o.dst = some t := by rw [← hd0, ← hdst _ _ _ hj]
        rw [hot, Act.put_same (hsz t hot), huniq _ _ _ _ _ hj hi]
        exact hv
      · rw [Act.put_getD]
        · exact (hh.val j _ u t hj hl rfl).mono hext
        · intro hot
          have hi' : d0 = some t := by rw [hdst _ _ _ hi, hd0, hot]
          rw [hi'] at hi
          exact hji (hud j i t _ _ hj hi)
    · have hot : o.dst = some t := by rw [← hd0, ← hdst _ _ _ hj]
      rw [hot, Act.put_same (hsz t hot), huniq _ _ _ _ _ hj hi]
      exact hv
  · intro t ht
    rw [Act.put_getD (fun hot => ht i (.inr rfl) (hd0.trans hot))]
    exact hh.oth t (fun j hj => ht j (.inl hj))

theorem exec_quiet (hcf : CfOK Pg n0.ng cf) (e0 : ER nb ι0 [] fr0 a0) (hb : nb.dirty = []) (hn : n0 = { nb with dirty := (dstsOf ops).filter (fun t => nb.kept.contains t) }) (inv : Inv Pg ops cf n0 ι0 h0 w0 fr0 a0 todo rds nam nm st h κ L a w)
    {i : Nat} {d : Option Tmp} {v : V} (hi : Has nm st i d v) (hnl : ¬ L i) (hq : OweQ Pg ops cf n0 fr0 nm st rds nam h i v) (hanc : ∀ j, (mOf ops i).testBit j = true → L j) (hcl : ∀ j, L j → (mOf ops j).testBit i = false) {Q : Exit → Act → World → Prop} {K : Act → World → Prop}
    (hK : ∀ κ' a' w', Inv Pg ops cf n0 ι0 h0 w0 fr0 a0 todo rds nam nm st h κ' (fun j => L j ∨ j = i) a' w' → K a' w') : wpOp Pg ops Q i K a w := by
  obtain ⟨hnam, nm', st', it, o, hs, ho, hok, hval⟩ := hq
  have hres : it.res cf st' fr0 h = .ok v h := by
    rcases hval with ⟨_, h1⟩ | ⟨_, _, h1⟩
    · exact h1 h
    · exact h1 h (fun _ _ e _ => e)
  have er := inv.hold.erI e0 hb hn inv.step.ext hs hanc hcl
  have hit := it_ok (chk_ok Pg) (n := nmI ops (masks ops.toList []) n0 nm' i) hcf hok ho er inv.step.rel (by rw [hres]; trivial)
  rw [hres] at hit
  refine hit Q K fun u h1 ι' v' w' hl hv hst => hK ι' (a.put o.dst v') w' ?_
  cases hl
  have hdo : dstOk n0 o = true := by
    obtain ⟨_, o', ho', h2⟩ := inv.dst i d v hi
    rw [ho] at ho'
    obtain rfl := Option.some.inj ho'
    exact h2
  have hsz : ∀ t, o.dst = some t → t < a.tmps.size := by
    intro t ht
    have h1 := dstOk_spec hdo t ht
    rw [inv.hold.size, e0.size]
    rw [hn] at h1
    exact h1
  have hlt : ∀ b cs, h.get b = some (.dead cs) → κ b = none → ι' b = none := by
    intro b cs hbd hkn
    cases hk : ι' b with
    | none => rfl
    | some l =>
      rcases hst.new b l hk with h2 | h2
      · rw [hkn] at h2; cases h2
      · have := inv.step.rel.dom b _ hbd; omega
  refine ⟨inv.len, inv.dst, inv.uniq, inv.udst, ?_, Holds.more inv.hold hst.ext ho hsz ⟨d, hi⟩ (fun i d v h => (inv.dst i d v h).1) inv.uniq inv.udst hv, ?_, inv.step.trans hst, ?_, ?_, ?_⟩
  · rintro j (hj | rfl)
    · exact inv.sub j hj
    · exact ⟨d, v, hi⟩
  · rw [← inv.defers]; cases o.dst <;> rfl
  · intro j d' u hj hl ht
    rcases inv.owe j d' u hj (fun h => hl (.inl h)) ht with h1 | ⟨nm2, st2, c2, o2, mk2, cs2, b2, x1, x2, x3, x4, x5, x6, x7, x8, x9, x10, x11⟩
    · exact .inl h1
    · exact .inr ⟨nm2, st2, c2, o2, mk2, cs2, b2, x1, x2, x3, x4, x5, x6, x7, x8, hlt _ _ x8 x9, x10, x11⟩
  · intro j hj
    obtain ⟨d', u, b, y1, y2, cs, y3, y4⟩ := inv.nams j hj
    refine ⟨d', u, b, y1, y2, cs, y3, ?_⟩
    rintro (hl | rfl)
    · obtain ⟨l, hp⟩ := y4 hl
      exact ⟨l, hp.step hst⟩
    · exact absurd hj hnam
  · intro j k d1 d2 v1 v2 b1 b2 hj hk hne y1 y2 y3 y4
    obtain ⟨z1, z2⟩ := inv.ndis j k d1 d2 v1 v2 b1 b2 hj hk hne y1 y2 y3 y4
    refine ⟨z1, fun l l' hl1 hl2 e1 e2 => ?_⟩
    have old : ∀ j d1 v1 b1 l, j ∈ nam → Has nm st j d1 v1 → v1.blk = some b1 → (L j ∨ j = i) → ι' b1 = some l → L j ∧ κ b1 = some l := by
      intro j d1 v1 b1 l hj y1 y3 hl e1
      rcases hl with hl | rfl
      · obtain ⟨d', u, b, x1, x2, cs, x3, x4⟩ := inv.nams j hj
        obtain ⟨l0, hp⟩ := x4 hl
        have hu := inv.uniq _ _ _ _ _ x1 y1
        rw [hu, y3] at x2
        obtain rfl := Option.some.inj x2
        have := hst.ext _ _ hp.io
        rw [e1] at this
        obtain rfl := Option.some.inj this
        exact ⟨hl, hp.io⟩
      · exact absurd hj hnam
    obtain ⟨p1, p2⟩ := old j d1 v1 b1 l hj y1 y3 hl1 e1
    obtain ⟨p3, p4⟩ := old k d2 v2 b2 l' hk y2 y4 hl2 e2
    exact z2 l l' p1 p3 p2 p4

theorem exec_name (e0 : ER nb ι0 [] fr0 a0) (hb : nb.dirty = []) (hn : n0 = { nb with dirty := (dstsOf ops).filter (fun t => nb.kept.contains t) }) (inv : Inv Pg ops cf n0 ι0 h0 w0 fr0 a0 todo rds nam nm st h κ L a w)
    {i : Nat} {d : Option Tmp} {v : V} (hi : Has nm st i d v) (hnl : ¬ L i) (hq : OweN Pg ops n0 h0 fr0 nm st nam h κ i v) (hanc : ∀ j, (mOf ops i).testBit j = true → L j) (hcl : ∀ j, L j → (mOf ops j).testBit i = false) {Q : Exit → Act → World → Prop} {K : Act → World → Prop}
    (hK : ∀ κ' a' w', Inv Pg ops cf n0 ι0 h0 w0 fr0 a0 todo rds nam nm st h κ' (fun j => L j ∨ j = i) a' w' → K a' w') : wpOp Pg ops Q i K a w := by
  obtain ⟨nm', st', c, o, mk, cs, b, hs, ho, hg, hal, hck, hm, rfl, hbd, hkn, hid, hin⟩ := hq
  have er := inv.hold.erI e0 hb hn inv.step.ext hs hanc hcl
  obtain ⟨mkv, cs', e', hrun, hcr, hvr⟩ := alloc_run hal hck er hm
  obtain ⟨hext, hstep, hpend⟩ := made_now (e' := e') inv.step hbd hkn hid hcr
  have hwant : Region.wanted o (yielded ops a.tmps) = true := by unfold Region.wanted; rw [hg]
  have hmkb : (mk b).blk = some b := hm.2 b
  unfold wpOp
  simp only [ho, hwant, if_true]
  left
  unfold Oper.wp
  rw [hrun w]
  refine hK (κ.add b ⟨w.heap.size, 0, cs'.size, e'⟩) (a.put o.dst (mkv w.heap.size)) (w.alloc (.cells cs' e')) ?_
  have hdo : dstOk n0 o = true := by
    obtain ⟨_, o', ho', h2⟩ := inv.dst i d _ hi
    rw [ho] at ho'
    obtain rfl := Option.some.inj ho'
    exact h2
  have hsz : ∀ t, o.dst = some t → t < a.tmps.size := by
    intro t ht
    have h1 := dstOk_spec hdo t ht
    rw [inv.hold.size, e0.size]
    rw [hn] at h1
    exact h1
  refine ⟨inv.len, inv.dst, inv.uniq, inv.udst, ?_, Holds.more inv.hold hext ho hsz ⟨d, hi⟩ (fun i d v h => (inv.dst i d v h).1) inv.uniq inv.udst (hvr _ b ⟨w.heap.size, 0, cs'.size, e'⟩ (if_pos rfl) rfl), ?_, hstep, ?_, ?_, ?_⟩
  · rintro j (hj | rfl)
    · exact inv.sub j hj
    · exact ⟨d, _, hi⟩
  · rw [← inv.defers]; cases o.dst <;> rfl
  · intro j d' u hj hl ht
    rcases inv.owe j d' u hj (fun h => hl (.inl h)) ht with h1 | ⟨nm2, st2, c2, o2, mk2, cs2, b2, x1, x2, x3, x4, x5, x6, x7, x8, x9, x10, x11⟩
    · exact .inl h1
    · refine .inr ⟨nm2, st2, c2, o2, mk2, cs2, b2, x1, x2, x3, x4, x5, x6, x7, x8, ?_, x10, x11⟩
      have hne := (inv.ndis j i d' d u (mk b) b2 b x11 hin (fun e => hl (.inr e)) hj hi (by rw [x7]; exact x6.2 b2) hmkb).1
      show (if b2 = b then _ else κ b2) = none
      rw [if_neg hne]
      exact x9
  · intro j hj
    obtain ⟨d', u, b2, y1, y2, cs2, y3, y4⟩ := inv.nams j hj
    refine ⟨d', u, b2, y1, y2, cs2, y3, ?_⟩
    by_cases hji : j = i
    · subst hji
      intro _
      have hu := inv.uniq _ _ _ _ _ y1 hi
      rw [hu, hmkb] at y2
      obtain rfl := Option.some.inj y2
      exact ⟨_, hpend⟩
    · rintro (hl | rfl)
      · obtain ⟨l, hp⟩ := y4 hl
        have hne := (inv.ndis j i d' d u (mk b) b2 b hj hin hji y1 hi y2 hmkb).1
        exact ⟨l, hp.made (fun e => hne e.symm) hbd hext⟩
      · exact absurd rfl hji
  · intro j k d1 d2 v1 v2 b1 b2 hj hk hne y1 y2 y3 y4
    obtain ⟨z1, z2⟩ := inv.ndis j k d1 d2 v1 v2 b1 b2 hj hk hne y1 y2 y3 y4
    refine ⟨z1, fun l l' hl1 hl2 e1 e2 => ?_⟩
    have old : ∀ j d1 v1 b1 l, j ∈ nam → Has nm st j d1 v1 → v1.blk = some b1 → (L j ∨ j = i) → κ.add b ⟨w.heap.size, 0, cs'.size, e'⟩ b1 = some l → (L j ∧ κ b1 = some l ∧ l.g < w.heap.size) ∨ (j = i ∧ l.g = w.heap.size) := by
      intro j d1 v1 b1 l hj y1 y3 hl e1
      by_cases hji : j = i
      · subst hji
        have hu := inv.uniq _ _ _ _ _ y1 hi
        rw [hu, hmkb] at y3
        obtain rfl := Option.some.inj y3
        rw [Io.add_same] at e1
        obtain rfl := Option.some.inj e1
        exact .inr ⟨rfl, rfl⟩
      · left
        have hlj := hl.resolve_right hji
        obtain ⟨d', u, b2, x1, x2, cs2, x3, x4⟩ := inv.nams j hj
        obtain ⟨l0, hp⟩ := x4 hlj
        have hu := inv.uniq _ _ _ _ _ x1 y1
        rw [hu, y3] at x2
        obtain rfl := Option.some.inj x2
        have := hext _ _ hp.io
        rw [e1] at this
        obtain rfl := Option.some.inj this
        obtain ⟨_, _, _, hw, _⟩ := hp.blk
        exact ⟨hlj, hp.io, (Array.getElem?_eq_some_iff.1 hw).1⟩
    rcases old j d1 v1 b1 l hj y1 y3 hl1 e1 with ⟨p1, p2, p3⟩ | ⟨p1, p2⟩ <;> rcases old k d2 v2 b2 l' hk y2 y4 hl2 e2 with ⟨q1, q2, q3⟩ | ⟨q1, q2⟩
    · exact z2 l l' p1 q1 p2 q2
    · omega
    · omega
    · exact absurd (p1.trans q1.symm) hne
end
end Go.Am
namespace Go.Am
theorem get_name {ι : Io} {h : H} {w : World} (r : Rel ι h w) (cs : List V) : ∀ b x, h.get b = some x → (h.alloc (.dead cs)).get b = some x := by
  intro b x hb
  rw [H.get_alloc, if_neg (fun e => by have := r.dom b x hb; rw [← e] at this; omega)]
  exact hb
theorem Step.name {ι0 κ : Io} {h0 h : H} {w0 w : World} (s : Step ι0 h0 w0 κ h w) (cs : List V) : Step ι0 h0 w0 κ (h.alloc (.dead cs)) w := by
  have r := s.rel
  have old : ∀ c x, (h.alloc (.dead cs)).get c = some x → x.alive = true → h.get c = some x := by
    intro c x hx ha
    rw [H.get_alloc] at hx
    split at hx
    · obtain rfl := Option.some.inj hx; cases ha
    · exact hx
  refine ⟨s.ext, ⟨?_, ?_, ?_, ?_⟩, s.size, s.keep, ?_, ?_, ?_, s.new, ?_, s.os, s.tape, s.output⟩
  · intro c x hx ha; exact r.blk c x (old c x hx ha) ha
  · intro c d x y m n hx hy hwr hal hne em en
    exact r.apart c d x y m n (old c x hx (Blk.wr_alive hwr)) (old d y hy hal) hwr hal hne em en
  · intro c m hm
    rw [H.next_alloc]
    have := r.fresh c m hm
    omega
  · intro c x hx
    rw [H.next_alloc]
    rw [H.get_alloc] at hx
    split at hx
    · subst_vars; omega
    · have := r.dom c x hx; omega
  · rintro g ⟨c, x, m, hx, hwr, em, rfl⟩
    exact s.own _ ⟨c, x, m, old c x hx (Blk.wr_alive hwr), hwr, em, rfl⟩
  · rintro g ⟨c, x, m, hx, hal, em, rfl⟩
    exact s.dom _ ⟨c, x, m, old c x hx hal, hal, em, rfl⟩
  · rw [H.next_alloc]; have := s.next; omega
  · intro c cs2 hc
    exact get_name r cs c _ (s.gone c cs2 hc)
theorem Pend.name {κ : Io} {h : H} {w w0 : World} {h0 : H} {b : P} {l : Loc} (p : Pend κ h w w0 h0 b l) (r : Rel κ h w) (cs : List V) : Pend κ (h.alloc (.dead cs)) w w0 h0 b l := by
  obtain ⟨cs1, cs', h1, h2, h3, h4⟩ := p.blk
  refine ⟨p.io, p.d, ?_, p.late, p.id, cs1, cs', get_name r cs b _ h1, h2, h3, h4⟩
  rintro ⟨c, x, m, hx, hal, em, e⟩
  rw [H.get_alloc] at hx
  split at hx
  · obtain rfl := Option.some.inj hx; cases hal
  · exact p.out ⟨c, x, m, hx, hal, em, e⟩

theorem fresh_no {nm : NL} {st : St} {i : Nat} {d d' : Option Tmp} {v : V} (hf : freshOp nm i d = true) (h : Has nm st i d' v) : False := by
  obtain ⟨k, h1, _⟩ := h
  have hm := List.mem_of_getElem? h1
  simp only [freshOp, List.all_eq_true] at hf
  have := hf _ hm
  simp at this
theorem fresh_dst {nm : NL} {st : St} {i j : Nat} {t : Tmp} {v : V} (hf : freshOp nm i (some t) = true) (h : Has nm st j (some t) v) : False := by
  obtain ⟨k, h1, _⟩ := h
  have hm := List.mem_of_getElem? h1
  simp only [freshOp, List.all_eq_true] at hf
  have := hf _ hm
  simp at this

section
variable {Pg : Program} {ops : Array Oper} {cf : CallF} {n0 : Nm} {ι0 : Io} {h0 : H} {w0 : World} {fr0 : Fr} {a0 : Act}
variable {todo rds nam : List Nat} {nm : NL} {st : St} {h : H} {κ : Io} {L : Nat → Prop} {a : Act} {w : World}

theorem Inv.quiet (inv : Inv Pg ops cf n0 ι0 h0 w0 fr0 a0 [] rds nam nm st h κ L a w) {i : Nat} {it : It} {o : Oper} {v : V} (ho : ops[i]? = some o) (hf : freshOp nm i o.dst = true) (hdo : dstOk n0 o = true) (hok : okIt (chk Pg) ops (nmI ops (masks ops.toList []) n0 nm i) o it = true)
    (hval : (isPuIt it = true ∧ ∀ h', it.res cf st fr0 h' = .ok v h') ∨ (isRdIt it = true ∧ ∀ h', Sub h h' → it.res cf st fr0 h' = .ok v h')) :
    Inv Pg ops cf n0 ι0 h0 w0 fr0 a0 [] (cond (isRdIt it) (i :: rds) rds) nam ((i, dstOf ops i) :: nm) (v :: st) h κ L a w := by
  have hd : dstOf ops i = o.dst := by unfold dstOf; rw [ho]; rfl
  have hni : ∀ d' v', ¬ Has nm st i d' v' := fun d' v' => fresh_no hf
  have hnL : ¬ L i := fun hl => by obtain ⟨d', v', h1⟩ := inv.sub i hl; exact hni _ _ h1
  have hnn : i ∉ nam := fun hn => by obtain ⟨d', v', b, h1, _⟩ := inv.nams i hn; exact hni _ _ h1
  have hrd : ∀ j, j ∈ rds → j ∈ (cond (isRdIt it) (i :: rds) rds) := by intro j hj; cases isRdIt it; exact hj; exact List.mem_cons_of_mem _ hj
  refine ⟨by simp [inv.len], ?_, ?_, ?_, ?_, ⟨?_, inv.hold.oth, inv.hold.size⟩, inv.defers, inv.step, ?_, ?_, ?_⟩
  · intro j d' u hj
    rcases hj.inv with ⟨rfl, rfl, rfl⟩ | hj
    · exact ⟨rfl, o, ho, hdo⟩
    · exact inv.dst j d' u hj
  · intro j d1 v1 d2 v2 h1 h2
    rcases h1.inv with ⟨a1, a2, a3⟩ | g1 <;> rcases h2.inv with ⟨e1, e2, e3⟩ | g2
    · exact a3.trans e3.symm
    · rw [a1] at g2; exact absurd g2 (hni _ _)
    · rw [e1] at g1; exact absurd g1 (hni _ _)
    · exact inv.uniq _ _ _ _ _ g1 g2
  · intro j k t v1 v2 h1 h2
    rcases h1.inv with ⟨e1, e2, e3⟩ | g1 <;> rcases h2.inv with ⟨f1, f2, f3⟩ | g2
    · exact e1.trans f1.symm
    · rw [hd] at e2; rw [← e2] at hf; exact (fresh_dst hf g2).elim
    · rw [hd] at f2; rw [← f2] at hf; exact (fresh_dst hf g1).elim
    · exact inv.udst _ _ _ _ _ g1 g2
  · intro j hj
    obtain ⟨d', u, h1⟩ := inv.sub j hj
    exact ⟨d', u, h1.old _ _⟩
  · intro j d' u t hj hl ht
    rcases hj.inv with ⟨rfl, rfl, rfl⟩ | hj
    · exact absurd hl hnL
    · exact inv.hold.val j d' u t hj hl ht
  · intro j d' u hj hl ht
    rcases hj.inv with ⟨rfl, rfl, rfl⟩ | hj
    · refine .inl ⟨hnn, nm, st, it, o, (Suf.refl inv.len).cons _ _, ho, hok, ?_⟩
      rcases hval with h1 | ⟨h1, h2⟩
      · exact .inl h1
      · exact .inr ⟨h1, by rw [h1]; exact List.mem_cons_self, h2⟩
    · rcases inv.owe j d' u hj hl ht with ⟨x0, nm', st', it', o', x1, x2, x3, x4⟩ | ⟨nm2, st2, c2, o2, mk2, cs2, b2, x1, x2⟩
      · refine .inl ⟨x0, nm', st', it', o', x1.cons _ _, x2, x3, x4.imp id fun ⟨y1, y2, y3⟩ => ⟨y1, hrd _ y2, y3⟩⟩
      · exact .inr ⟨nm2, st2, c2, o2, mk2, cs2, b2, x1.cons _ _, x2⟩
  · intro j hj
    obtain ⟨d', u, b, y1, y2⟩ := inv.nams j hj
    exact ⟨d', u, b, y1.old _ _, y2⟩
  · intro j k d1 d2 v1 v2 b1 b2 hj hk hne y1 y2 y3 y4
    rcases y1.inv with ⟨rfl, _⟩ | y1
    · exact absurd hj hnn
    · rcases y2.inv with ⟨rfl, _⟩ | y2
      · exact absurd hk hnn
      · exact inv.ndis j k d1 d2 v1 v2 b1 b2 hj hk hne y1 y2 y3 y4

theorem Inv.named (inv : Inv Pg ops cf n0 ι0 h0 w0 fr0 a0 [] rds nam nm st h κ L a w) {i : Nat} {c : C} {o : Oper} {mk : P → V} {cs : List V} (ho : ops[i]? = some o) (hf : freshOp nm i o.dst = true) (hdo : dstOk n0 o = true) (hg : o.guard = none) (hal : isAl c = true) (hck : chk Pg (nmI ops (masks ops.toList []) n0 nm i) o c = true)
    (hm : Made c st fr0 mk cs) : Inv Pg ops cf n0 ι0 h0 w0 fr0 a0 [] rds (i :: nam) ((i, dstOf ops i) :: nm) (mk h.next :: st) (h.alloc (.dead cs)) κ L a w := by
  have hd : dstOf ops i = o.dst := by unfold dstOf; rw [ho]; rfl
  have hni : ∀ d' v', ¬ Has nm st i d' v' := fun d' v' => fresh_no hf
  have hnL : ¬ L i := fun hl => by obtain ⟨d', v', h1⟩ := inv.sub i hl; exact hni _ _ h1
  have r := inv.step.rel
  have hsub := get_name r cs
  have hkn : κ h.next = none := by
    cases hk : κ h.next with
    | none => rfl
    | some l => have := r.fresh _ _ hk; omega
  have hnew : (h.alloc (.dead cs)).get h.next = some (.dead cs) := by rw [H.get_alloc, if_pos rfl]
  refine ⟨by simp [inv.len], ?_, ?_, ?_, ?_, ⟨?_, inv.hold.oth, inv.hold.size⟩, inv.defers, inv.step.name cs, ?_, ?_, ?_⟩
  · intro j d' u hj
    rcases hj.inv with ⟨rfl, rfl, rfl⟩ | hj
    · exact ⟨rfl, o, ho, hdo⟩
    · exact inv.dst j d' u hj
  · intro j d1 v1 d2 v2 h1 h2
    rcases h1.inv with ⟨a1, a2, a3⟩ | g1 <;> rcases h2.inv with ⟨e1, e2, e3⟩ | g2
    · exact a3.trans e3.symm
    · rw [a1] at g2; exact absurd g2 (hni _ _)
    · rw [e1] at g1; exact absurd g1 (hni _ _)
    · exact inv.uniq _ _ _ _ _ g1 g2
  · intro j k t v1 v2 h1 h2
    rcases h1.inv with ⟨e1, e2, e3⟩ | g1 <;> rcases h2.inv with ⟨f1, f2, f3⟩ | g2
    · exact e1.trans f1.symm
    · rw [hd] at e2; rw [← e2] at hf; exact (fresh_dst hf g2).elim
    · rw [hd] at f2; rw [← f2] at hf; exact (fresh_dst hf g1).elim
    · exact inv.udst _ _ _ _ _ g1 g2
  · intro j hj
    obtain ⟨d', u, h1⟩ := inv.sub j hj
    exact ⟨d', u, h1.old _ _⟩
  · intro j d' u t hj hl ht
    rcases hj.inv with ⟨rfl, rfl, rfl⟩ | hj
    · exact absurd hl hnL
    · exact inv.hold.val j d' u t hj hl ht
  · intro j d' u hj hl ht
    rcases hj.inv with ⟨rfl, rfl, rfl⟩ | hj
    · exact .inr ⟨nm, st, c, o, mk, cs, h.next, (Suf.refl inv.len).cons _ _, ho, hg, hal, hck, hm, rfl, hnew, hkn, inv.step.next, List.mem_cons_self⟩
    · have hji : j ≠ i := fun e => by rw [e] at hj; exact hni _ _ hj
      rcases inv.owe j d' u hj hl ht with ⟨x0, nm', st', it', o', x1, x2, x3, x4⟩ | ⟨nm2, st2, c2, o2, mk2, cs2, b2, x1, x2, x3, x4, x5, x6, x7, x8, x9, x10, x11⟩
      · refine .inl ⟨by simp [hji, x0], nm', st', it', o', x1.cons _ _, x2, x3, x4.imp id fun ⟨y1, y2, y3⟩ => ⟨y1, y2, fun h' hs => y3 h' (fun b x hb ha => hs b x (hsub b x hb) ha)⟩⟩
      · exact .inr ⟨nm2, st2, c2, o2, mk2, cs2, b2, x1.cons _ _, x2, x3, x4, x5, x6, x7, hsub _ _ x8, x9, x10, List.mem_cons_of_mem _ x11⟩
  · intro j hj
    rcases List.mem_cons.1 hj with rfl | hj
    · exact ⟨_, _, h.next, Has.new _ _ _ _ _, hm.2 _, cs, hnew, fun hl => absurd hl hnL⟩
    · obtain ⟨d', u, b, y1, y2, cs2, y3, y4⟩ := inv.nams j hj
      exact ⟨d', u, b, y1.old _ _, y2, cs2, hsub _ _ y3, fun hl => let ⟨l, hp⟩ := y4 hl; ⟨l, hp.name r cs⟩⟩
  · intro j k d1 d2 v1 v2 b1 b2 hj hk hne y1 y2 y3 y4
    have oldb : ∀ j d1 v1 b1, j ∈ nam → Has nm st j d1 v1 → v1.blk = some b1 → b1 ≠ h.next := by
      intro j d1 v1 b1 hj y1 y3 e
      obtain ⟨d', u, b, x1, x2, cs2, x3, _⟩ := inv.nams j hj
      rw [inv.uniq _ _ _ _ _ x1 y1, y3] at x2
      obtain rfl := Option.some.inj x2
      have := r.dom _ _ x3
      rw [e] at this
      omega
    have mem : ∀ j d1 v1, j ∈ i :: nam → Has nm st j d1 v1 → j ∈ nam := fun j d1 v1 hj y => (List.mem_cons.1 hj).resolve_left (fun e => by rw [e] at y; exact hni _ _ y)
    rcases y1.inv with ⟨a1, a2, a3⟩ | g1 <;> rcases y2.inv with ⟨e1, e2, e3⟩ | g2
    · exact absurd (a1.trans e1.symm) hne
    · rw [a3, hm.2] at y3
      obtain rfl := Option.some.inj y3
      exact ⟨fun e => oldb k d2 v2 b2 (mem _ _ _ hk g2) g2 y4 e.symm, fun l l' hl => absurd (a1 ▸ hl) hnL⟩
    · rw [e3, hm.2] at y4
      obtain rfl := Option.some.inj y4
      exact ⟨oldb j d1 v1 b1 (mem _ _ _ hj g1) g1 y3, fun l l' _ hl => absurd (e1 ▸ hl) hnL⟩
    · exact inv.ndis j k d1 d2 v1 v2 b1 b2 (mem _ _ _ hj g1) (mem _ _ _ hk g2) hne g1 g2 y3 y4

theorem Inv.recheck {r : Nat} (inv : Inv Pg ops cf n0 ι0 h0 w0 fr0 a0 (r :: todo) rds nam nm st h κ L a w) (h1 : ∀ d v, Has nm st r d v → ¬ L r → OweQ Pg ops cf n0 fr0 nm st rds nam h r v) : Inv Pg ops cf n0 ι0 h0 w0 fr0 a0 todo rds nam nm st h κ L a w := by
  refine ⟨inv.len, inv.dst, inv.uniq, inv.udst, inv.sub, inv.hold, inv.defers, inv.step, ?_, inv.nams, inv.ndis⟩
  intro j d v hj hl ht
  by_cases hjr : j = r
  · subst hjr
    exact .inl (h1 d v hj hl)
  · exact inv.owe j d v hj hl (by simp [hjr, ht])
end
end Go.Am
namespace Go.Am
section
variable {Pg : Program} {ops : Array Oper} {cf : CallF} {n0 : Nm} {ι0 : Io} {h0 : H} {w0 : World} {fr0 : Fr} {a0 : Act}
variable {rds nam : List Nat} {nm : NL} {st : St} {h : H} {κ : Io} {L : Nat → Prop} {a : Act} {w : World}

theorem same_safe {k : St → Fr → H → RO} {st : St} {fr : Fr} {h : H} {v : V} {r : R} (hs : (same k st fr h v r).safe) : ∃ h2, r = .ok v h2 ∧ same k st fr h v r = k st fr h := by
  cases r with
  | no => exact hs.elim
  | ask => exact hs.elim
  | ok v' h2 =>
    have hs : (cond (v'.beq v) (k st fr h) .no).safe := hs
    cases hb : v'.beq v with
    | false => rw [hb] at hs; exact hs.elim
    | true =>
      refine ⟨h2, by rw [V.beq_eq _ _ hb], ?_⟩
      show cond (v'.beq v) (k st fr h) .no = _
      rw [hb]
      rfl
theorem idx_has {k : I} {r : Nat} (hlen : nm.length = st.length) (hk : idxAt nm k = some r) : ∃ d, Has nm st r d (nthI .junk k st) := by
  unfold idxAt at hk
  cases hq : nm[k.num]? with
  | none => rw [hq] at hk; cases hk
  | some q =>
    rw [hq] at hk
    obtain ⟨j, d⟩ := q
    obtain rfl := Option.some.inj (show some j = some r from hk)
    have hlt : k.num < st.length := by rw [← hlen]; exact (List.getElem?_eq_some_iff.1 hq).1
    refine ⟨d, k.num, hq, ?_⟩
    rw [nthI_eq]
    simp [hlt]

/-- a recheck gives the read its value at the present memory -/
theorem re_ok {todo : List Nat} {r : Nat} {it : It} (inv : Inv Pg ops cf n0 ι0 h0 w0 fr0 a0 (r :: todo) rds nam nm st h κ L a w) (hr : r ∈ rds) (hk : reOk (chk Pg) ops (masks ops.toList []) n0 nam nm r it = true) {kk : KK} (hs : (it.sem cf kk st fr0 h).safe) :
    it.sem cf kk st fr0 h = kk st fr0 h ∧ Inv Pg ops cf n0 ι0 h0 w0 fr0 a0 todo rds nam nm st h κ L a w := by
  unfold reOk at hk
  simp only [Bool.and_eq_true, Bool.not_eq_true', List.contains_eq_mem, decide_eq_false_iff_not] at hk
  obtain ⟨hn, hk⟩ := hk
  cases ho : ops[r]? with
  | none => rw [ho] at hk; cases hk
  | some o =>
    rw [ho] at hk
    have go : ∀ (k : I) (it' : It), idxAt nm k = some r → isRdIt it' = true → okIt (chk Pg) ops (nmI ops (masks ops.toList []) n0 nm r) o it' = true → (same kk st fr0 h (nthI .junk k st) (it'.res cf st fr0 h)).safe →
        same kk st fr0 h (nthI .junk k st) (it'.res cf st fr0 h) = kk st fr0 h ∧ Inv Pg ops cf n0 ι0 h0 w0 fr0 a0 todo rds nam nm st h κ L a w := by
      intro k it' hi hrd hok hs
      obtain ⟨h2, e1, e2⟩ := same_safe hs
      refine ⟨e2, inv.recheck fun d v hv _ => ?_⟩
      obtain ⟨d', hv'⟩ := idx_has inv.len hi
      obtain rfl := inv.uniq _ _ _ _ _ hv hv'
      obtain ⟨u, f1, f2⟩ := rdIt_ok hrd (cf := cf) (st := st) (fr := fr0) (h := h) (by rw [e1]; trivial)
      rw [f1] at e1
      obtain ⟨rfl, _⟩ := R.ok.inj e1
      exact ⟨hn, nm, st, it', o, Suf.refl inv.len, ho, hok, .inr ⟨hrd, hr, f2⟩⟩
    cases it <;> try (cases hk; done)
    case re c k =>
      simp only [Bool.and_eq_true, decide_eq_true_eq] at hk
      obtain ⟨⟨⟨h1, h2⟩, h3⟩, h4⟩ := hk
      exact go k (.op c) h1 h3 (by simp only [okIt, Bool.and_eq_true]; exact ⟨h2, h4⟩) hs
    case gre g wt c k =>
      simp only [Bool.and_eq_true, decide_eq_true_eq] at hk
      obtain ⟨⟨⟨h1, h2⟩, h3⟩, h4⟩ := hk
      exact go k (.gop g wt c) h1 h2 (by simp only [okIt, Bool.and_eq_true]; exact ⟨h3, h4⟩) hs
end
end Go.Am
namespace Go.Am
section
variable {Pg : Program} {ops : Array Oper} {cf : CallF} {n0 : Nm} {ι0 : Io} {h0 : H} {w0 : World} {fr0 : Fr} {a0 : Act}
variable {κ : Io} {L : Nat → Prop} {a : Act} {w : World}
def isName : It → Bool
  | .name _ => true
  | _ => false
def Stop (its : List It) (ord : List Nat) : Prop := ∀ it rest i ord', its = it :: rest → ord = i :: ord' → isPuIt it = false ∧ isRdIt it = false ∧ isName it = false

theorem advance {Lf : Fr → H → Prop} : ∀ (its : List It) (todo rds nam : List Nat) (nm : NL) (st : St) (h : H) (ord : List Nat), okDr (chk Pg) ops (masks ops.toList []) n0 todo rds [] nam nm its ord = true → (∀ r ∈ todo, r ∈ rds) → (runIts cf its st fr0 h).safe → (∀ fr' h', (runIts cf its st fr0 h).Leaf .norm fr' h' → Lf fr' h') →
    Inv Pg ops cf n0 ι0 h0 w0 fr0 a0 todo rds nam nm st h κ L a w → ∃ its' rds' nam' nm' st' h' ord', okDr (chk Pg) ops (masks ops.toList []) n0 [] rds' [] nam' nm' its' ord' = true ∧ Stop its' ord' ∧ (runIts cf its' st' fr0 h').safe ∧ (∀ fr' h2, (runIts cf its' st' fr0 h').Leaf .norm fr' h2 → Lf fr' h2) ∧ Inv Pg ops cf n0 ι0 h0 w0 fr0 a0 [] rds' nam' nm' st' h' κ L a w := by
  intro its
  induction its with
  | nil =>
    intro todo rds nam nm st h ord hk htd hs hl inv
    cases todo with
    | cons => simp [okDr] at hk
    | nil => exact ⟨[], rds, nam, nm, st, h, ord, hk, (fun it rest i ord' e => by cases e), hs, hl, inv⟩
  | cons it its ih =>
    intro todo rds nam nm st h ord hk htd hs hl inv
    cases todo with
    | cons r todo =>
      simp only [okDr, Bool.and_eq_true] at hk
      obtain ⟨e1, inv2⟩ := re_ok inv (htd r List.mem_cons_self) hk.1 (kk := runIts cf its) hs
      have e2 : runIts cf (it :: its) st fr0 h = runIts cf its st fr0 h := e1
      rw [e2] at hs hl
      exact ih todo rds nam nm st h ord hk.2 (fun r hr => htd r (List.mem_cons_of_mem _ hr)) hs hl inv2
    | nil =>
      have stop : Stop (it :: its) ord → ∃ its' rds' nam' nm' st' h' ord', okDr (chk Pg) ops (masks ops.toList []) n0 [] rds' [] nam' nm' its' ord' = true ∧ Stop its' ord' ∧ (runIts cf its' st' fr0 h').safe ∧ (∀ fr' h2, (runIts cf its' st' fr0 h').Leaf .norm fr' h2 → Lf fr' h2) ∧ Inv Pg ops cf n0 ι0 h0 w0 fr0 a0 [] rds' nam' nm' st' h' κ L a w :=
        fun hst => ⟨it :: its, rds, nam, nm, st, h, ord, hk, hst, hs, hl, inv⟩
      cases ord with
      | nil => exact stop (fun it2 rest i ord' e e2 => by cases e2)
      | cons i ord =>
        cases hq : isPuIt it || isRdIt it with
        | true =>
          have hk2 : opOk (chk Pg) ops (masks ops.toList []) n0 nm i it = true ∧ okDr (chk Pg) ops (masks ops.toList []) n0 [] (cond (isRdIt it) (i :: rds) rds) [] nam ((i, dOf ops i) :: nm) its ord = true := by
            cases it <;> try (cases hq; done)
            all_goals (simp only [okDr, hq, cond_true, Bool.and_eq_true] at hk; exact ⟨hk.1, hk.2.2⟩)
          obtain ⟨h1, h2⟩ := hk2
          unfold opOk at h1
          cases ho : ops[i]? with
          | none => rw [ho] at h1; cases h1
          | some o =>
            rw [ho] at h1
            simp only [Bool.and_eq_true] at h1
            obtain ⟨⟨hdo, hf⟩, hok⟩ := h1
            have hsem : runIts cf (it :: its) st fr0 h = push (runIts cf its) st fr0 (it.res cf st fr0 h) := It.sem_res hok cf (runIts cf its) st fr0 h
            rw [hsem] at hs hl
            obtain ⟨s1, s2⟩ := push_safe hs
            have hv : ∃ v, it.res cf st fr0 h = .ok v h ∧ ((isPuIt it = true ∧ ∀ h', it.res cf st fr0 h' = .ok v h') ∨ (isRdIt it = true ∧ ∀ h', Sub h h' → it.res cf st fr0 h' = .ok v h')) := by
              cases hp : isPuIt it with
              | true => obtain ⟨v, hv⟩ := puIt_ok hp s1; exact ⟨v, hv h, .inl ⟨rfl, hv⟩⟩
              | false =>
                rw [hp] at hq
                have hq : isRdIt it = true := hq
                obtain ⟨v, hv, hv2⟩ := rdIt_ok hq s1
                exact ⟨v, hv, .inr ⟨hq, hv2⟩⟩
            obtain ⟨v, hv1, hv2⟩ := hv
            exact ih [] _ nam ((i, dstOf ops i) :: nm) (v :: st) h ord h2 (by simp) (s2 v h (by rw [hv1]; exact .ok _ _)) (fun fr' h' hl2 => hl fr' h' (push_leaf (by rw [hv1]; exact .ok _ _) hl2)) (inv.quiet ho hf hdo hok hv2)
        | false =>
          cases hnm : isName it with
          | false =>
            refine stop (fun it2 rest i2 ord' e e2 => ?_)
            obtain ⟨rfl, _⟩ := List.cons.inj e
            simp only [Bool.or_eq_false_iff] at hq
            exact ⟨hq.1, hq.2, hnm⟩
          | true =>
            cases it <;> try (cases hnm; done)
            rename_i c
            simp only [okDr, Bool.and_eq_true] at hk
            obtain ⟨⟨_, h1⟩, h2⟩ := hk
            unfold nameOk at h1
            cases ho : ops[i]? with
            | none => rw [ho] at h1; cases h1
            | some o =>
              rw [ho] at h1
              simp only [Bool.and_eq_true] at h1
              obtain ⟨⟨⟨⟨hdo, hf⟩, hg⟩, hal⟩, hck⟩ := h1
              have hg : o.guard = none := by cases hgo : o.guard with | none => rfl | some => rw [hgo] at hg; cases hg
              have hs0 : (itName cf (runIts cf its) c st fr0 h).safe := hs
              have hl0 : ∀ fr' h', (itName cf (runIts cf its) c st fr0 h).Leaf .norm fr' h' → Lf fr' h' := hl
              have hsc : (c.sem st fr0 h).safe := by
                unfold itName at hs0
                cases hc : c.sem st fr0 h with
                | no => rw [hc] at hs0; exact hs0.elim
                | ok => trivial
                | ask => rw [hc] at hs0; exact hs0.elim
              obtain ⟨mk, cs, hm⟩ := made_ok hal hsc
              have e1 : itName cf (runIts cf its) c st fr0 h = runIts cf its (mk h.next :: st) fr0 (h.alloc (.dead cs)) := by
                unfold itName
                rw [hm.1 h]
                show onCs ((h.alloc (.cells cs false)).get h.next) _ = _
                rw [H.get_alloc, if_pos rfl]
                rfl
              rw [e1] at hs0 hl0
              exact ih [] rds (i :: nam) ((i, dstOf ops i) :: nm) (mk h.next :: st) (h.alloc (.dead cs)) ord h2 (by simp) hs0 hl0 (inv.named ho hf hdo hg hal hck hm)
end
end Go.Am
namespace Go.Am
section
variable {Pg : Program} {ops : Array Oper} {cf : CallF} {nb n0 : Nm} {ι0 : Io} {h0 : H} {w0 : World} {fr0 : Fr} {a0 : Act}
variable {κ : Io} {L : Nat → Prop} {a : Act} {w : World}

def isInit : It → Bool
  | .init _ => true
  | _ => false
theorem okDr_op {ck : Nm → Oper → C → Bool} {ms : List Nat} {it : It} {its : List It} {rds ini nam : List Nat} {nm : NL} {i : Nat} {ord : List Nat} (h1 : isName it = false) (h2 : isInit it = false) (hk : okDr ck ops ms n0 [] rds ini nam nm (it :: its) (i :: ord) = true) :
    opOk ck ops ms n0 nm i it = true ∧ (((isPuIt it || isRdIt it) = true ∧ ini.isEmpty = true ∧ okDr ck ops ms n0 [] (cond (isRdIt it) (i :: rds) rds) [] nam ((i, dOf ops i) :: nm) its ord = true) ∨
      ((isPuIt it || isRdIt it) = false ∧ (∀ j ∈ ord, (ms.getD j 0).testBit i = true) ∧ (∀ j ∈ ini, (ms.getD i 0).testBit j = true) ∧ okDr ck ops ms n0 (rds.filter (fun r => !(Nat.testBit (ms.getD i 0) r))) (rds.filter (fun r => !(Nat.testBit (ms.getD i 0) r))) [] nam ((i, dOf ops i) :: nm) its ord = true)) := by
  have e : okDr ck ops ms n0 [] rds ini nam nm (it :: its) (i :: ord) = (opOk ck ops ms n0 nm i it && cond (isPuIt it || isRdIt it)
      (ini.isEmpty && okDr ck ops ms n0 [] (cond (isRdIt it) (i :: rds) rds) [] nam ((i, dOf ops i) :: nm) its ord)
      (ord.all (fun j => Nat.testBit (ms.getD j 0) i) && ini.all (fun j => Nat.testBit (ms.getD i 0) j) &&
        okDr ck ops ms n0 (rds.filter (fun r => !(Nat.testBit (ms.getD i 0) r))) (rds.filter (fun r => !(Nat.testBit (ms.getD i 0) r))) [] nam ((i, dOf ops i) :: nm) its ord)) := by
    cases it <;> first | rfl | (cases h1; done) | (cases h2; done)
  rw [e] at hk
  simp only [Bool.and_eq_true] at hk
  obtain ⟨ho, hk⟩ := hk
  refine ⟨ho, ?_⟩
  cases hq : (isPuIt it || isRdIt it) with
  | true =>
    rw [hq] at hk
    simp only [cond_true, Bool.and_eq_true] at hk
    exact .inl ⟨rfl, hk.1, hk.2⟩
  | false =>
    rw [hq] at hk
    simp only [cond_false, Bool.and_eq_true, List.all_eq_true] at hk
    exact .inr ⟨rfl, hk.1.1, hk.1.2, hk.2⟩
/-- what is put in place for the next effect has been waited for by it -/
theorem ini_anc : ∀ (its : List It) (rds ini nam : List Nat) (nm : NL) (e : Nat) (ord : List Nat), okDr (chk Pg) ops (masks ops.toList []) n0 [] rds ini nam nm its (e :: ord) = true → ∀ r ∈ ini, (mOf ops e).testBit r = true := by
  intro its
  induction its with
  | nil => intro rds ini nam nm e ord hk; simp [okDr] at hk
  | cons it its ih =>
    intro rds ini nam nm e ord hk r hr
    have hne : ini.isEmpty = false := by cases ini; cases hr; rfl
    cases h1 : isInit it with
    | true =>
      cases it <;> try (cases h1; done)
      simp only [okDr, Bool.and_eq_true] at hk
      exact ih rds _ _ nm e ord hk.2 r (List.mem_cons_of_mem _ hr)
    | false =>
      cases h2 : isName it with
      | true =>
        cases it <;> try (cases h2; done)
        simp only [okDr, hne, Bool.false_and] at hk
        cases hk
      | false =>
        rcases (okDr_op h2 h1 hk).2 with ⟨_, h3, _⟩ | ⟨_, _, h3, _⟩
        · rw [hne] at h3; cases h3
        · exact h3 r hr
end
end Go.Am
namespace Go.Am
section
variable {Pg : Program} {ops : Array Oper} {cf : CallF} {nb n0 : Nm} {ι0 : Io} {h0 : H} {w0 : World} {fr0 : Fr} {a0 : Act}
variable {rds nam : List Nat} {nm : NL} {st : St} {h : H} {κ : Io} {L : Nat → Prop} {a : Act} {w : World}

theorem put_sub {h : H} {b : P} {cs : List V} {x : Blk} (hb : h.get b = some (.dead cs)) : Sub h (h.put b x) := by
  intro c y hc ha
  rw [H.get_put]
  split
  · subst_vars
    rw [hb] at hc
    obtain rfl := Option.some.inj hc
    cases ha
  · exact hc

theorem Inv.init (hr0 : Rel ι0 h0 w0) (inv : Inv Pg ops cf n0 ι0 h0 w0 fr0 a0 [] rds nam nm st h κ L a w) {r : Nat} {d : Option Tmp} {v : V} (hr : r ∈ nam) (hv : Has nm st r d v) (hL : L r) :
    ∃ b cs, v.blk = some b ∧ h.get b = some (.dead cs) ∧ Inv Pg ops cf n0 ι0 h0 w0 fr0 a0 [] rds (nam.filter (fun j => !(Nat.beq j r))) nm st (h.put b (.cells cs false)) κ L a w := by
  obtain ⟨d1, v1, b, hv1, hb, cs, hd, hp⟩ := inv.nams r hr
  obtain ⟨l, hp⟩ := hp hL
  obtain rfl := inv.uniq _ _ _ _ _ hv1 hv
  have mem : ∀ j, j ∈ nam.filter (fun j => !(Nat.beq j r)) ↔ j ∈ nam ∧ j ≠ r := by
    intro j
    rw [List.mem_filter]
    refine and_congr_right fun _ => ?_
    rw [Bool.not_eq_true', Bool.eq_false_iff]
    exact not_congr (natBeq_iff _ _)
  refine ⟨b, cs, hb, hd, inv.len, inv.dst, inv.uniq, inv.udst, inv.sub, inv.hold, inv.defers, absorb hr0 inv.step hp hd, ?_, ?_, ?_⟩
  · intro j d' u hj hl ht
    have hjr : j ≠ r := fun e => hl (e ▸ hL)
    rcases inv.owe j d' u hj hl ht with ⟨x0, nm', st', it', o', x1, x2, x3, x4⟩ | ⟨nm2, st2, c2, o2, mk2, cs2, b2, x1, x2, x3, x4, x5, x6, x7, x8, x9, x10, x11⟩
    · refine .inl ⟨fun hm => x0 ((mem j).1 hm).1, nm', st', it', o', x1, x2, x3, x4.imp id fun ⟨y1, y2, y3⟩ => ⟨y1, y2, fun h' hs => y3 h' (fun c y hc ha => hs c y (put_sub hd c y hc ha) ha)⟩⟩
    · have hne : b ≠ b2 := fun e => by rw [← e, hp.io] at x9; cases x9
      exact .inr ⟨nm2, st2, c2, o2, mk2, cs2, b2, x1, x2, x3, x4, x5, x6, x7, by rw [H.get_put, if_neg hne]; exact x8, x9, x10, (mem j).2 ⟨x11, hjr⟩⟩
  · intro j hj
    obtain ⟨hj, hjr⟩ := (mem j).1 hj
    obtain ⟨d', u, b2, y1, y2, cs2, y3, y4⟩ := inv.nams j hj
    obtain ⟨z1, z2⟩ := inv.ndis j r d' d u v1 b2 b hj hr hjr y1 hv y2 hb
    refine ⟨d', u, b2, y1, y2, cs2, by rw [H.get_put, if_neg (fun e => z1 e.symm)]; exact y3, fun hl => ?_⟩
    obtain ⟨l2, hp2⟩ := y4 hl
    exact ⟨l2, hp2.other (fun e => z1 e.symm) hp.io (fun e => z2 l2 l hl hL hp2.io hp.io e.symm)⟩
  · intro j k d1 d2 v1 v2 b1 b2 hj hk hne y1 y2 y3 y4
    exact inv.ndis j k d1 d2 v1 v2 b1 b2 ((mem j).1 hj).1 ((mem k).1 hk).1 hne y1 y2 y3 y4

def Done (its : List It) : Prop := ∀ it rest, its = it :: rest → isInit it = false

theorem inits (hr0 : Rel ι0 h0 w0) {Lf : Fr → H → Prop} : ∀ (its : List It) (ini nam : List Nat) (h : H) (ord : List Nat), okDr (chk Pg) ops (masks ops.toList []) n0 [] rds ini nam nm its ord = true →
    (∀ e ord', ord = e :: ord' → ∀ j, (mOf ops e).testBit j = true → L j) → (ord = [] → ∀ j, j < ops.size → L j) → (runIts cf its st fr0 h).safe → (∀ fr' h', (runIts cf its st fr0 h).Leaf .norm fr' h' → Lf fr' h') →
    Inv Pg ops cf n0 ι0 h0 w0 fr0 a0 [] rds nam nm st h κ L a w → ∃ its' ini' nam' h', okDr (chk Pg) ops (masks ops.toList []) n0 [] rds ini' nam' nm its' ord = true ∧ Done its' ∧ ((its' = its ∧ ini' = ini) ∨ ini' ≠ []) ∧ (runIts cf its' st fr0 h').safe ∧ (∀ fr' h2, (runIts cf its' st fr0 h').Leaf .norm fr' h2 → Lf fr' h2) ∧ Inv Pg ops cf n0 ι0 h0 w0 fr0 a0 [] rds nam' nm st h' κ L a w := by
  intro its
  induction its with
  | nil =>
    intro ini nam h ord hk h1 h2 hs hl inv
    exact ⟨[], ini, nam, h, hk, fun it rest e => (by cases e), .inl ⟨rfl, rfl⟩, hs, hl, inv⟩
  | cons it its ih =>
    intro ini nam h ord hk h1 h2 hs hl inv
    cases hi : isInit it with
    | false => exact ⟨it :: its, ini, nam, h, hk, fun it2 rest e => (by obtain ⟨rfl, _⟩ := List.cons.inj e; exact hi), .inl ⟨rfl, rfl⟩, hs, hl, inv⟩
    | true =>
      cases it <;> try (cases hi; done)
      rename_i k
      simp only [okDr, Bool.and_eq_true] at hk
      obtain ⟨hk1, hk2⟩ := hk
      unfold initOk at hk1
      cases hx : idxAt nm k with
      | none => rw [hx] at hk1; cases hk1
      | some r =>
        rw [hx] at hk1 hk2
        have hrn : r ∈ nam := by simpa using hk1
        obtain ⟨d, hv⟩ := idx_has inv.len hx
        have hLr : L r := by
          cases ord with
          | nil =>
            obtain ⟨_, o, ho, _⟩ := inv.dst _ _ _ hv
            exact h2 rfl r (Array.getElem?_eq_some_iff.1 ho).1
          | cons e ord' => exact h1 e ord' rfl r (ini_anc its rds _ _ nm e ord' hk2 r List.mem_cons_self)
        obtain ⟨b, cs, hb, hd, inv2⟩ := inv.init hr0 hrn hv hLr
        have e1 : runIts cf (.init k :: its) st fr0 h = runIts cf its st fr0 (h.put b (.cells cs false)) := by
          show itInit cf (runIts cf its) k st fr0 h = _
          unfold itInit
          rw [hb]
          show onDead (h.get b) _ = _
          rw [hd]
          rfl
        rw [e1] at hs hl
        obtain ⟨its', ini', nam', h', f1, f2, f3, f5, f6, f7⟩ := ih _ _ (h.put b (.cells cs false)) ord hk2 h1 h2 hs hl inv2
        refine ⟨its', ini', nam', h', f1, f2, .inr fun e => ?_, f5, f6, f7⟩
        rcases f3 with f3 | f3
        · rw [f3.2] at e; cases e
        · exact f3 e
end
end Go.Am
namespace Go.Am
section
variable {Pg : Program} {ops : Array Oper} {cf : CallF} {nb n0 : Nm} {ι0 : Io} {h0 : H} {w0 : World} {fr0 : Fr} {a0 : Act}
variable {rds nam : List Nat} {nm : NL} {st : St} {h : H} {κ : Io} {L : Nat → Prop} {a : Act} {w : World}

/-- the machine stands before an effect, or before the end -/
def At (Pg : Program) (ops : Array Oper) (cf : CallF) (n0 : Nm) (ι0 : Io) (h0 : H) (w0 : World) (fr0 : Fr) (a0 : Act) (Lf : Fr → H → Prop) (L : Nat → Prop) (a : Act) (w : World) : Prop :=
  ∃ its rds nam nm st h κ ord, okDr (chk Pg) ops (masks ops.toList []) n0 [] rds [] nam nm its ord = true ∧ Stop its ord ∧ (runIts cf its st fr0 h).safe ∧ (∀ fr' h2, (runIts cf its st fr0 h).Leaf .norm fr' h2 → Lf fr' h2) ∧ Inv Pg ops cf n0 ι0 h0 w0 fr0 a0 [] rds nam nm st h κ L a w

theorem Inv.effect (inv : Inv Pg ops cf n0 ι0 h0 w0 fr0 a0 [] rds nam nm st h κ L a w) {e : Nat} {o : Oper} {v : V} {v' : Value} {h' : H} {κ' : Io} {w' : World} (e0 : ER nb ι0 [] fr0 a0) (hn : n0 = { nb with dirty := (dstsOf ops).filter (fun t => nb.kept.contains t) })
    (ho : ops[e]? = some o) (hf : freshOp nm e o.dst = true) (hdo : dstOk n0 o = true) (hanc : ∀ j, (mOf ops e).testBit j = true → L j) (hst : Step κ h w κ' h' w') (hv : VR κ' v v') :
    Inv Pg ops cf n0 ι0 h0 w0 fr0 a0 (rds.filter (fun r => !(Nat.testBit (mOf ops e) r))) (rds.filter (fun r => !(Nat.testBit (mOf ops e) r))) nam ((e, dstOf ops e) :: nm) (v :: st) h' κ' (fun j => L j ∨ j = e) (a.put o.dst v') w' := by
  have hd : dstOf ops e = o.dst := by unfold dstOf; rw [ho]; rfl
  have hni : ∀ d' v', ¬ Has nm st e d' v' := fun d' v' => fresh_no hf
  have hnL : ¬ L e := fun hl => by obtain ⟨d', v', h1⟩ := inv.sub e hl; exact hni _ _ h1
  have hnn : e ∉ nam := fun hn => by obtain ⟨d', v', b, h1, _⟩ := inv.nams e hn; exact hni _ _ h1
  have hsz : ∀ t, o.dst = some t → t < a.tmps.size := by
    intro t ht
    have h1 := dstOk_spec hdo t ht
    rw [inv.hold.size, e0.size]
    rw [hn] at h1
    exact h1
  have hlt : ∀ b cs, h.get b = some (.dead cs) → κ b = none → κ' b = none := by
    intro b cs hbd hkn
    cases hk : κ' b with
    | none => rfl
    | some l =>
      rcases hst.new b l hk with h2 | h2
      · rw [hkn] at h2; cases h2
      · have := inv.step.rel.dom b _ hbd; omega
  have dst : ∀ j d v2, Has ((e, dstOf ops e) :: nm) (v :: st) j d v2 → d = dstOf ops j ∧ ∃ o, ops[j]? = some o ∧ dstOk n0 o = true := by
    intro j d' u hj
    rcases hj.inv with ⟨rfl, rfl, rfl⟩ | hj
    · exact ⟨rfl, o, ho, hdo⟩
    · exact inv.dst j d' u hj
  have uniq : ∀ j d1 v1 d2 v2, Has ((e, dstOf ops e) :: nm) (v :: st) j d1 v1 → Has ((e, dstOf ops e) :: nm) (v :: st) j d2 v2 → v1 = v2 := by
    intro j d1 v1 d2 v2 h1 h2
    rcases h1.inv with ⟨a1, a2, a3⟩ | g1 <;> rcases h2.inv with ⟨e1, e2, e3⟩ | g2
    · exact a3.trans e3.symm
    · rw [a1] at g2; exact absurd g2 (hni _ _)
    · rw [e1] at g1; exact absurd g1 (hni _ _)
    · exact inv.uniq _ _ _ _ _ g1 g2
  have udst : ∀ j k t v1 v2, Has ((e, dstOf ops e) :: nm) (v :: st) j (some t) v1 → Has ((e, dstOf ops e) :: nm) (v :: st) k (some t) v2 → j = k := by
    intro j k t v1 v2 h1 h2
    rcases h1.inv with ⟨e1, e2, e3⟩ | g1 <;> rcases h2.inv with ⟨f1, f2, f3⟩ | g2
    · exact e1.trans f1.symm
    · rw [hd] at e2; rw [← e2] at hf; exact (fresh_dst hf g2).elim
    · rw [hd] at f2; rw [← f2] at hf; exact (fresh_dst hf g1).elim
    · exact inv.udst _ _ _ _ _ g1 g2
  have hold : Holds ops a0 ((e, dstOf ops e) :: nm) (v :: st) κ L a := by
    refine ⟨?_, inv.hold.oth, inv.hold.size⟩
    intro j d' u t hj hl ht
    rcases hj.inv with ⟨rfl, rfl, rfl⟩ | hj
    · exact absurd hl hnL
    · exact inv.hold.val j d' u t hj hl ht
  refine ⟨by simp [inv.len], dst, uniq, udst, ?_, Holds.more hold hst.ext ho hsz ⟨_, Has.new _ _ _ _ _⟩ (fun i d v h => (dst i d v h).1) uniq udst hv, ?_, inv.step.trans hst, ?_, ?_, ?_⟩
  · rintro j (hj | rfl)
    · obtain ⟨d', u, h1⟩ := inv.sub j hj
      exact ⟨d', u, h1.old _ _⟩
    · exact ⟨_, _, Has.new _ _ _ _ _⟩
  · rw [← inv.defers]; cases o.dst <;> rfl
  · intro j d' u hj hl ht
    rcases hj.inv with ⟨rfl, rfl, rfl⟩ | hj
    · exact absurd (.inr rfl) hl
    · have hnl : ¬ L j := fun hh => hl (.inl hh)
      rcases inv.owe j d' u hj hnl (by simp) with ⟨x0, nm', st', it', o', x1, x2, x3, x4⟩ | ⟨nm2, st2, c2, o2, mk2, cs2, b2, x1, x2, x3, x4, x5, x6, x7, x8, x9, x10, x11⟩
      · refine .inl ⟨x0, nm', st', it', o', x1.cons _ _, x2, x3, ?_⟩
        rcases x4 with y | ⟨y1, y2, y3⟩
        · exact .inl y
        · exfalso
          cases hb : (mOf ops e).testBit j with
          | true => exact hnl (hanc j hb)
          | false => exact ht (List.mem_filter.2 ⟨y2, by rw [hb]; rfl⟩)
      · exact .inr ⟨nm2, st2, c2, o2, mk2, cs2, b2, x1.cons _ _, x2, x3, x4, x5, x6, x7, hst.gone _ _ x8, hlt _ _ x8 x9, x10, x11⟩
  · intro j hj
    obtain ⟨d', u, b, y1, y2, cs, y3, y4⟩ := inv.nams j hj
    refine ⟨d', u, b, y1.old _ _, y2, cs, hst.gone _ _ y3, ?_⟩
    rintro (hl | rfl)
    · obtain ⟨l, hp⟩ := y4 hl
      exact ⟨l, hp.step hst⟩
    · exact absurd hj hnn
  · intro j k d1 d2 v1 v2 b1 b2 hj hk hne y1 y2 y3 y4
    have y1 := y1.inv.resolve_left (fun e => hnn (e.1 ▸ hj))
    have y2 := y2.inv.resolve_left (fun e => hnn (e.1 ▸ hk))
    obtain ⟨z1, z2⟩ := inv.ndis j k d1 d2 v1 v2 b1 b2 hj hk hne y1 y2 y3 y4
    refine ⟨z1, fun l l' hl1 hl2 e1 e2 => ?_⟩
    have old : ∀ j d1 v1 b1 l, j ∈ nam → Has nm st j d1 v1 → v1.blk = some b1 → (L j ∨ j = e) → κ' b1 = some l → L j ∧ κ b1 = some l := by
      intro j d1 v1 b1 l hj y1 y3 hl e1
      rcases hl with hl | rfl
      · obtain ⟨d', u, b, x1, x2, cs, x3, x4⟩ := inv.nams j hj
        obtain ⟨l0, hp⟩ := x4 hl
        have hu := inv.uniq _ _ _ _ _ x1 y1
        rw [hu, y3] at x2
        obtain rfl := Option.some.inj x2
        have := hst.ext _ _ hp.io
        rw [e1] at this
        obtain rfl := Option.some.inj this
        exact ⟨hl, hp.io⟩
      · exact absurd hj hnn
    obtain ⟨p1, p2⟩ := old j d1 v1 b1 l hj y1 y3 hl1 e1
    obtain ⟨p3, p4⟩ := old k d2 v2 b2 l' hk y2 y4 hl2 e2
    exact z2 l l' p1 p3 p2 p4

/-- the next of the order is fresh -/
theorem next_fresh : ∀ (its : List It) (rds ini nam : List Nat) (nm : NL) (e : Nat) (ord : List Nat), okDr (chk Pg) ops (masks ops.toList []) n0 [] rds ini nam nm its (e :: ord) = true → ∃ o, ops[e]? = some o ∧ freshOp nm e o.dst = true := by
  intro its
  induction its with
  | nil => intro rds ini nam nm e ord hk; simp [okDr] at hk
  | cons it its ih =>
    intro rds ini nam nm e ord hk
    cases h1 : isInit it with
    | true =>
      cases it <;> try (cases h1; done)
      simp only [okDr, Bool.and_eq_true] at hk
      exact ih rds _ _ nm e ord hk.2
    | false =>
      cases h2 : isName it with
      | true =>
        cases it <;> try (cases h2; done)
        simp only [okDr, Bool.and_eq_true] at hk
        have h3 := hk.1.2
        unfold nameOk at h3
        cases ho : ops[e]? with
        | none => rw [ho] at h3; cases h3
        | some o =>
          rw [ho] at h3
          simp only [Bool.and_eq_true] at h3
          exact ⟨o, rfl, h3.1.1.1.2⟩
      | false =>
        have h3 := (okDr_op h2 h1 hk).1
        unfold opOk at h3
        cases ho : ops[e]? with
        | none => rw [ho] at h3; cases h3
        | some o =>
          rw [ho] at h3
          simp only [Bool.and_eq_true] at h3
          exact ⟨o, rfl, h3.1.2⟩
/-- what comes after an effect waits for it -/
theorem next_waits : ∀ (its : List It) (rds ini nam : List Nat) (nm : NL) (e : Nat) (ord : List Nat), okDr (chk Pg) ops (masks ops.toList []) n0 [] rds ini nam nm its (e :: ord) = true → (ini ≠ [] ∨ Stop its (e :: ord)) → ∀ j ∈ ord, (mOf ops j).testBit e = true := by
  intro its
  induction its with
  | nil => intro rds ini nam nm e ord hk; simp [okDr] at hk
  | cons it its ih =>
    intro rds ini nam nm e ord hk hs
    cases h1 : isInit it with
    | true =>
      cases it <;> try (cases h1; done)
      simp only [okDr, Bool.and_eq_true] at hk
      exact ih rds _ _ nm e ord hk.2 (.inl (by simp))
    | false =>
      have hne : ini ≠ [] → ini.isEmpty = false := by intro h; cases ini; exact absurd rfl h; rfl
      cases h2 : isName it with
      | true =>
        rcases hs with hs | hs
        · cases it <;> try (cases h2; done)
          simp only [okDr, hne hs, Bool.false_and] at hk
          cases hk
        · have := (hs _ _ _ _ rfl rfl).2.2
          rw [h2] at this
          cases this
      | false =>
        rcases (okDr_op h2 h1 hk).2 with ⟨h4, h3, _⟩ | ⟨_, h3, _⟩
        · rcases hs with hs | hs
          · rw [hne hs] at h3; cases h3
          · obtain ⟨g1, g2, _⟩ := hs _ _ _ _ rfl rfl
            rw [g1, g2] at h4
            cases h4
        · exact h3
/-- each operation is listed, or comes -/
theorem all_come : ∀ (its : List It) (todo rds ini nam : List Nat) (nm : NL) (ord : List Nat), okDr (chk Pg) ops (masks ops.toList []) n0 todo rds ini nam nm its ord = true → ∀ i, i < ops.size → (∃ q ∈ nm, q.1 = i) ∨ i ∈ ord := by
  intro its
  induction its with
  | nil =>
    intro todo rds ini nam nm ord hk i hi
    cases todo with
    | cons => simp [okDr] at hk
    | nil =>
      cases ord with
      | cons => simp [okDr] at hk
      | nil =>
        simp only [okDr, Bool.and_eq_true, List.all_eq_true] at hk
        have := hk.1.2 i (List.mem_range.2 hi)
        obtain ⟨q, hq, hb⟩ := List.any_eq_true.1 this
        exact .inl ⟨q, hq, (natBeq_iff _ _).1 hb⟩
  | cons it its ih =>
    intro todo rds ini nam nm ord hk i hi
    have step : ∀ j ord' (x : (∃ q ∈ (j, dOf ops j) :: nm, q.1 = i) ∨ i ∈ ord'), (∃ q ∈ nm, q.1 = i) ∨ i ∈ j :: ord' := by
      rintro j ord' (⟨q, hq, rfl⟩ | x)
      · rcases List.mem_cons.1 hq with rfl | hq
        · exact .inr List.mem_cons_self
        · exact .inl ⟨q, hq, rfl⟩
      · exact .inr (List.mem_cons_of_mem _ x)
    cases todo with
    | cons r todo =>
      simp only [okDr, Bool.and_eq_true] at hk
      exact ih _ _ _ _ _ _ hk.2 i hi
    | nil =>
      cases h1 : isInit it with
      | true =>
        cases it <;> try (cases h1; done)
        simp only [okDr, Bool.and_eq_true] at hk
        exact ih _ _ _ _ _ _ hk.2 i hi
      | false =>
        cases ord with
        | nil =>
          have hk : (nam.isEmpty && (List.range ops.size).all (fun i => nm.any (fun q => Nat.beq q.1 i)) && endOk n0 nm (it :: its) n0.dirty) = true := by
            cases it <;> first | exact hk | (cases h1; done)
          simp only [Bool.and_eq_true, List.all_eq_true] at hk
          have := hk.1.2 i (List.mem_range.2 hi)
          obtain ⟨q, hq, hb⟩ := List.any_eq_true.1 this
          exact .inl ⟨q, hq, (natBeq_iff _ _).1 hb⟩
        | cons j ord =>
          cases h2 : isName it with
          | true =>
            cases it <;> try (cases h2; done)
            simp only [okDr, Bool.and_eq_true] at hk
            exact step _ _ (ih _ _ _ _ _ _ hk.2 i hi)
          | false =>
            rcases (okDr_op h2 h1 hk).2 with ⟨_, _, h3⟩ | ⟨_, _, _, h3⟩
            · exact step _ _ (ih _ _ _ _ _ _ h3 i hi)
            · exact step _ _ (ih _ _ _ _ _ _ h3 i hi)
end
end Go.Am
namespace Go.Am
section
variable {Pg : Program} {ops : Array Oper} {cf : CallF} {nb n0 : Nm} {ι0 : Io} {h0 : H} {w0 : World} {fr0 : Fr} {a0 : Act}
variable {rds nam : List Nat} {nm : NL} {st : St} {h : H} {κ : Io} {L : Nat → Prop} {a : Act} {w : World}

theorem slots_ok (hlen : nm.length = st.length) (hval : ∀ i d v t, Has nm st i d v → d = some t → VR κ v (a.tmps.getD t undef)) : ∀ (its : List It) (dirty : List Nat) (fr : Fr), endOk n0 nm its dirty = true →
    (∀ (p : P) (v : V), fr.get p = some v → p.num ∈ n0.kept ∧ (p.num ∉ dirty → VR κ v (a.tmps.getD p.num undef))) →
    ∃ fr', runIts cf its st fr h = .norm fr' h ∧ ∀ (p : P) (v : V), fr'.get p = some v → p.num ∈ n0.kept ∧ VR κ v (a.tmps.getD p.num undef) := by
  intro its
  induction its with
  | nil =>
    intro dirty fr hk hf
    have : dirty = [] := by cases dirty; rfl; cases hk
    subst this
    exact ⟨fr, rfl, fun p v hp => ⟨(hf p v hp).1, (hf p v hp).2 (by simp)⟩⟩
  | cons it its ih =>
    intro dirty fr hk hf
    cases it <;> try (cases hk; done)
    rename_i p k
    simp only [endOk, Bool.and_eq_true] at hk
    obtain ⟨⟨h1, h2⟩, h3⟩ := hk
    have hkept : p.num ∈ n0.kept := by simpa using h2
    cases hq : nm[k.num]? with
    | none => rw [hq] at h1; cases h1
    | some q =>
      rw [hq] at h1
      obtain ⟨i, d⟩ := q
      have h1 : d = some p.num := of_decide_eq_true h1
      have hv : Has nm st i d (nthI .junk k st) := by
        have hlt : k.num < st.length := by rw [← hlen]; exact (List.getElem?_eq_some_iff.1 hq).1
        refine ⟨k.num, hq, ?_⟩
        rw [nthI_eq]
        simp [hlt]
      refine ih _ (fr.set p (nthI .junk k st)) h3 fun p2 v hp => ?_
      rw [T.get_set] at hp
      split at hp
      · subst_vars
        obtain rfl := Option.some.inj hp
        exact ⟨hkept, fun _ => hval _ _ _ _ hv rfl⟩
      · rename_i hne
        refine ⟨(hf p2 v hp).1, fun hd => (hf p2 v hp).2 fun hm => hd (List.mem_filter.2 ⟨hm, ?_⟩)⟩
        rw [Bool.not_eq_true', Bool.eq_false_iff]
        exact fun hb => hne (P.num_inj ((natBeq_iff _ _).1 hb).symm)

theorem at_end (hr0 : Rel ι0 h0 w0) (e0 : ER nb ι0 [] fr0 a0) (hb : nb.base = nb) (hn : n0 = { nb with dirty := (dstsOf ops).filter (fun t => nb.kept.contains t) }) {Lf : Fr → H → Prop} (hat : At Pg ops cf n0 ι0 h0 w0 fr0 a0 Lf L a w) (hall : ∀ j, j < ops.size → L j) :
    ∃ fr' h' ι', Lf fr' h' ∧ ER nb ι' [] fr' a ∧ Step ι0 h0 w0 ι' h' w ∧ a.defers = a0.defers := by
  obtain ⟨its, rds, nam, nm, st, h, κ, ord, hk, hst, hs, hl, inv⟩ := hat
  have hord : ord = [] := by
    cases ord with
    | nil => rfl
    | cons e ord =>
      obtain ⟨o, ho, hf⟩ := next_fresh its rds [] nam nm e ord hk
      obtain ⟨d, v, hv⟩ := inv.sub e (hall e (Array.getElem?_eq_some_iff.1 ho).1)
      exact (fresh_no hf hv).elim
  subst hord
  obtain ⟨its', ini', nam', h', f1, f2, _, f5, f6, inv2⟩ := inits hr0 its [] nam h [] hk (fun e ord' e1 => by cases e1) (fun _ => hall) hs hl inv
  have f1 : (nam'.isEmpty && (List.range ops.size).all (fun i => nm.any (fun q => Nat.beq q.1 i)) && endOk n0 nm its' n0.dirty) = true := by
    cases its' with
    | nil => exact f1
    | cons it its' =>
      have := f2 it its' rfl
      cases it <;> first | exact f1 | (cases this; done)
  simp only [Bool.and_eq_true] at f1
  obtain ⟨_, hend⟩ := f1
  have hLi : ∀ i d v, Has nm st i d v → L i := by
    intro i d v hi
    obtain ⟨_, o, ho, _⟩ := inv2.dst i d v hi
    exact hall i (Array.getElem?_eq_some_iff.1 ho).1
  have hnd : nb.dirty = [] := by rw [← hb]; rfl
  have hnn : nb.names = [] := by rw [← hb]; rfl
  have hm0 : ∀ j, (0 : Nat).testBit j = true → L j := by intro j hj; simp at hj
  have er := inv2.hold.er e0 hnd hn inv2.step.ext (Suf.refl inv2.len) hm0
  obtain ⟨fr', g1, g2⟩ := slots_ok (cf := cf) (h := h') (n0 := n0) (a := a) (κ := κ) inv2.len (fun i d v t hi hd => inv2.hold.val i d v t hi (hLi i d v hi) hd) its' n0.dirty fr0 hend er.fr
  have hkept : n0.kept = nb.kept := by rw [hn]
  refine ⟨fr', h', κ, f6 _ _ (by rw [g1]; exact .norm _ _), ⟨by rw [hnn]; rfl, fun i v t hi => by simp at hi, fun p v hp => ⟨hkept ▸ (g2 p v hp).1, fun _ => (g2 p v hp).2⟩, fun p hp => ?_, inv2.hold.size.trans e0.size⟩, inv2.step, inv2.defers⟩
  obtain ⟨l, e1, e2⟩ := e0.glob p hp
  exact ⟨l, inv2.step.ext _ _ e1, e2⟩

/-- one operation that is ready is executed -/
theorem at_step (hr0 : Rel ι0 h0 w0) (hcf : CfOK Pg n0.ng cf) (e0 : ER nb ι0 [] fr0 a0) (hb : nb.base = nb) (hn : n0 = { nb with dirty := (dstsOf ops).filter (fun t => nb.kept.contains t) }) {Lf : Fr → H → Prop} (hat : At Pg ops cf n0 ι0 h0 w0 fr0 a0 Lf L a w)
    {i : Nat} (hi : i < ops.size) (hnl : ¬ L i) (hanc : ∀ j, (mOf ops i).testBit j = true → L j) (hcl : ∀ j, L j → (mOf ops j).testBit i = false) {Q : Exit → Act → World → Prop} {K : Act → World → Prop}
    (hK : ∀ a' w', At Pg ops cf n0 ι0 h0 w0 fr0 a0 Lf (fun j => L j ∨ j = i) a' w' → K a' w') : wpOp Pg ops Q i K a w := by
  obtain ⟨its, rds, nam, nm, st, h, κ, ord, hk, hst, hs, hl, inv⟩ := hat
  have hnd : nb.dirty = [] := by rw [← hb]; rfl
  by_cases hin : ∃ d v, Has nm st i d v
  · obtain ⟨d, v, hv⟩ := hin
    rcases inv.owe i d v hv hnl (by simp) with h1 | h1
    · exact exec_quiet hcf e0 hnd hn inv hv hnl h1 hanc hcl fun κ' a' w' inv' => hK a' w' ⟨its, rds, nam, nm, st, h, κ', ord, hk, hst, hs, hl, inv'⟩
    · exact exec_name e0 hnd hn inv hv hnl h1 hanc hcl fun κ' a' w' inv' => hK a' w' ⟨its, rds, nam, nm, st, h, κ', ord, hk, hst, hs, hl, inv'⟩
  · have hni : ¬ ∃ q ∈ nm, q.1 = i := by
      rintro ⟨⟨j, d⟩, hq, rfl⟩
      obtain ⟨k, hk2⟩ := List.getElem?_of_mem hq
      have hlt : k < st.length := by rw [← inv.len]; exact (List.getElem?_eq_some_iff.1 hk2).1
      exact hin ⟨d, st[k], k, hk2, by simp [hlt]⟩
    have hio := (all_come its [] rds [] nam nm ord hk i hi).resolve_left hni
    cases ord with
    | nil => cases hio
    | cons e ord =>
      have hie : i = e := by
        rcases List.mem_cons.1 hio with h1 | h1
        · exact h1
        · obtain ⟨o, ho, hf⟩ := next_fresh its rds [] nam nm e ord hk
          obtain ⟨d, v, hv⟩ := inv.sub e (hanc e (next_waits its rds [] nam nm e ord hk (.inr hst) i h1))
          exact (fresh_no hf hv).elim
      subst hie
      obtain ⟨its', ini', nam', h', f1, f2, f3, f5, f6, inv2⟩ := inits hr0 its [] nam h (i :: ord) hk (fun e ord' e1 j hj => hanc j (by rw [(List.cons.inj e1).1]; exact hj)) (fun e1 => by cases e1) hs hl inv
      cases its' with
      | nil => simp [okDr] at f1
      | cons it rest =>
        have hnm : isName it = false := by
          rcases f3 with ⟨f3, _⟩ | f3
          · exact (hst it rest i ord f3.symm rfl).2.2
          · cases hq : isName it with
            | false => rfl
            | true =>
              cases it <;> try (cases hq; done)
              simp only [okDr, Bool.and_eq_true] at f1
              have := f1.1.1
              cases ini' with
              | nil => exact absurd rfl f3
              | cons => cases this
        obtain ⟨hop, hk2⟩ := okDr_op hnm (f2 it rest rfl) f1
        have heff : okDr (chk Pg) ops (masks ops.toList []) n0 (rds.filter (fun r => !(Nat.testBit ((masks ops.toList []).getD i 0) r))) (rds.filter (fun r => !(Nat.testBit ((masks ops.toList []).getD i 0) r))) [] nam' ((i, dOf ops i) :: nm) rest ord = true := by
          rcases hk2 with ⟨k1, k2, _⟩ | ⟨_, _, _, k4⟩
          · exfalso
            rcases f3 with ⟨f3, _⟩ | f3
            · obtain ⟨g1, g2, _⟩ := hst it rest i ord f3.symm rfl
              rw [g1, g2] at k1
              cases k1
            · cases ini' with
              | nil => exact absurd rfl f3
              | cons => cases k2
          · exact k4
        unfold opOk at hop
        cases ho : ops[i]? with
        | none => rw [ho] at hop; cases hop
        | some o =>
          rw [ho] at hop
          simp only [Bool.and_eq_true] at hop
          obtain ⟨⟨hdo, hf⟩, hok⟩ := hop
          have er := inv2.hold.erI e0 hnd hn inv2.step.ext (Suf.refl inv2.len) hanc hcl
          have hsem : runIts cf (it :: rest) st fr0 h' = push (runIts cf rest) st fr0 (it.res cf st fr0 h') := It.sem_res hok cf (runIts cf rest) st fr0 h'
          rw [hsem] at f5 f6
          obtain ⟨s1, s2⟩ := push_safe f5
          refine it_ok (chk_ok Pg) (n := nmI ops (masks ops.toList []) n0 nm i) hcf hok ho er inv2.step.rel s1 Q K fun v h1 ι' v' w' hlf hv hst2 => ?_
          have inv3 := inv2.effect e0 hn ho hf hdo hanc hst2 hv
          obtain ⟨its3, rds3, nam3, nm3, st3, h3, ord3, g1, g2, g3, g4, g5⟩ := advance (Lf := Lf) rest _ _ nam' ((i, dstOf ops i) :: nm) (v :: st) h1 ord heff (fun r hr => hr) (s2 v h1 hlf) (fun fr' h'' hl2 => f6 fr' h'' (push_leaf hlf hl2)) inv3
          exact hK _ _ ⟨its3, rds3, nam3, nm3, st3, h3, ι', ord3, g1, g2, g3, g4, g5⟩

theorem count_set : ∀ (l : List Bool) (i : Nat), l[i]? = some false → (l.set i true).count false + 1 = l.count false
  | [], i, h => by simp at h
  | b :: l, 0, h => by
    have : b = false := by simpa using h
    subst this
    simp
  | b :: l, i + 1, h => by
    have := count_set l i (by simpa using h)
    rw [List.set_cons_succ, List.count_cons, List.count_cons]
    omega

theorem deps_lt : ∀ (l : List Oper) (i0 : Nat), depsOk l i0 = true → ∀ (k : Nat) (o : Oper), l[k]? = some o → ∀ j ∈ deps o, j < i0 + k
  | [], _, _, k, o, h => by simp at h
  | x :: l, i0, hd, k, o, h => by
    simp only [depsOk, Bool.and_eq_true, List.all_eq_true] at hd
    intro j hj
    cases k with
    | zero =>
      obtain rfl : x = o := by simpa using h
      have := (natBlt_iff _ _).1 (hd.1 j hj)
      omega
    | succ k =>
      have := deps_lt l (i0 + 1) hd.2 k o (by simpa using h) j hj
      omega

theorem all_ready {listed : Array Bool} (hd : depsOk ops.toList 0 = true) (hsz : listed.size = ops.size) (hr : Region.ready .any ops listed = []) : ∀ i, i < ops.size → listed.getD i false = true := by
  intro i
  induction i using Nat.strongRecOn with
  | _ i ih =>
    intro hi
    have hno : i ∉ Region.ready .any ops listed := by rw [hr]; simp
    rw [mem_ready] at hno
    have hdep := deps_lt _ _ hd i ops[i] (by simp [hi])
    have hx : ¬ listed.getD i true = false := by
      intro hf
      refine hno ⟨hf, ops[i], by simp [hi], fun e he hb => ?_⟩
      have := hdep e.on (mem_deps.2 ⟨e, he, hb, rfl⟩)
      exact ih e.on (by omega) (by omega)
    have hlt : i < listed.size := by omega
    simp [hlt] at hx ⊢
    exact hx

theorem drawn_any (hr0 : Rel ι0 h0 w0) (hcf : CfOK Pg n0.ng cf) (e0 : ER nb ι0 [] fr0 a0) (hb : nb.base = nb) (hn : n0 = { nb with dirty := (dstsOf ops).filter (fun t => nb.kept.contains t) }) (hd : depsOk ops.toList 0 = true) {Lf : Fr → H → Prop} {Q : Exit → Act → World → Prop}
    (hQ : ∀ a w fr' h' ι', Lf fr' h' → ER nb ι' [] fr' a → Step ι0 h0 w0 ι' h' w → a.defers = a0.defers → Q .normal a w) :
    ∀ (fuel : Nat) (listed : Array Bool) (a : Act) (w : World), listed.size = ops.size → listed.toList.count false ≤ fuel → (∀ i o, listed.getD i false = true → ops[i]? = some o → ∀ j ∈ deps o, listed.getD j false = true) → At Pg ops cf n0 ι0 h0 w0 fr0 a0 Lf (fun i => listed.getD i false = true) a w → wpAny Pg .any ops Q fuel listed a w := by
  have fin : ∀ (listed : Array Bool) (a : Act) (w : World), listed.size = ops.size → At Pg ops cf n0 ι0 h0 w0 fr0 a0 Lf (fun i => listed.getD i false = true) a w → Region.ready .any ops listed = [] → Q .normal a w := by
    intro listed a w hsz hat hr
    obtain ⟨fr', h', ι', g1, g2, g3, g4⟩ := at_end hr0 e0 hb hn hat (all_ready hd hsz hr)
    exact hQ a w fr' h' ι' g1 g2 g3 g4
  have unl : ∀ (listed : Array Bool) (i : Nat), i ∈ Region.ready .any ops listed → listed.toList[i]? = some false := by
    intro listed i hi
    have := (mem_ready.1 hi).1
    by_cases hlt : i < listed.size
    · simp [hlt] at this ⊢
      exact this
    · simp [hlt] at this
  intro fuel
  induction fuel with
  | zero =>
    intro listed a w hsz hc hcl hat
    have hr : Region.ready .any ops listed = [] := by
      cases hr : Region.ready .any ops listed with
      | nil => rfl
      | cons i r =>
        have h1 := unl listed i (by rw [hr]; simp)
        have := count_set _ _ h1
        omega
    exact ⟨hr, fin listed a w hsz hat hr⟩
  | succ fuel ih =>
    intro listed a w hsz hc hcl hat
    refine ⟨fin listed a w hsz hat, fun i hi => ?_⟩
    have h1 := unl listed i hi
    have hlt : i < listed.size := by simpa using (List.getElem?_eq_some_iff.1 h1).1
    have hnl : ¬ listed.getD i false = true := by
      simp at h1
      simp [h1]
    obtain ⟨_, o, ho, hdeps⟩ := mem_ready.1 hi
    have hL : ∀ j ∈ deps o, listed.getD j false = true := by
      intro j hj
      obtain ⟨e, he, hbd, rfl⟩ := mem_deps.1 hj
      exact hdeps e he hbd
    have hls : ∀ j, (listed.setIfInBounds i true).getD j false = true ↔ listed.getD j false = true ∨ j = i := by
      intro j
      by_cases hji : j = i
      · subst hji; simp [hlt]
      · rw [getD_set_ne false (Ne.symm hji)]
        exact ⟨.inl, fun h => h.resolve_right hji⟩
    refine at_step hr0 hcf e0 hb hn hat (Array.getElem?_eq_some_iff.1 ho).1 hnl (anc_listed hd hcl i o ho hL) (fun j hj => by
      cases hb : (mOf ops j).testBit i with
      | false => rfl
      | true =>
        have hjl : j < listed.size := by
          by_cases hjl : j < listed.size
          · exact hjl
          · simp [hjl] at hj
        rw [hsz] at hjl
        exact absurd (anc_listed hd hcl j ops[j] (by simp [hjl]) (hcl j ops[j] hj (by simp [hjl])) i hb) hnl) fun a' w' hat' => ?_
    refine ih _ a' w' (by simp [hsz]) (by have := count_set _ _ h1; rw [Array.toList_setIfInBounds]; omega) ?_ ?_
    · intro j oj hj hoj k hk
      rw [hls] at hj ⊢
      rcases hj with hj | rfl
      · exact .inl (hcl j oj hj hoj k hk)
      · rw [ho] at hoj
        obtain rfl := Option.some.inj hoj
        exact .inl (hL k hk)
    · have : (fun j => (listed.setIfInBounds i true).getD j false = true) = (fun j => listed.getD j false = true ∨ j = i) := funext fun j => propext (hls j)
      rw [this]
      exact hat'
end

theorem okD_ok (Pg : Program) : DOK Pg (okD Pg) := by
  intro cf n id ord ops its ι fr h a w hcf hb hk e hr hs
  unfold okD at hk
  simp only [Bool.and_eq_true] at hk
  obtain ⟨⟨hm, hd⟩, hk⟩ := hk
  have hnn : n.names = [] := by rw [← hb]; rfl
  refine wp_region_any hm ?_
  have hr0 : Rel ι h { w with drawn := w.drawn + 1 } := hr.of_heap rfl
  have inv : Inv Pg ops cf { n with dirty := (dstsOf ops).filter (fun t => n.kept.contains t) } ι h { w with drawn := w.drawn + 1 } fr a [] [] [] [] [] h ι (fun i => (Array.replicate ops.size false).getD i false = true) a { w with drawn := w.drawn + 1 } := by
    have hno : ∀ i, ¬ (Array.replicate ops.size false).getD i false = true := by
      intro i
      by_cases hi : i < ops.size <;> simp [hi]
    have hh : ∀ i d v, ¬ Has [] [] i d v := by rintro i d v ⟨k, h1, _⟩; simp at h1
    exact ⟨rfl, fun i d v h => (hh _ _ _ h).elim, fun i d v _ _ h => (hh _ _ _ h).elim, fun i _ _ _ _ h => (hh _ _ _ h).elim, fun i h => (hno i h).elim, ⟨fun i d v t h => (hh _ _ _ h).elim, fun _ _ => rfl, rfl⟩, rfl, Step.refl hr0, fun i d v h => (hh _ _ _ h).elim, (fun i hi => by cases hi), (fun i _ _ _ _ _ _ _ hi => by cases hi)⟩
  obtain ⟨its3, rds3, nam3, nm3, st3, h3, ord3, g1, g2, g3, g4, g5⟩ := advance (Lf := fun fr' h' => (runIts cf its [] fr h).Leaf .norm fr' h') its [] [] [] [] [] h ord hk (fun r hr => hr) hs (fun _ _ l => l) inv
  refine drawn_any (n0 := { n with dirty := (dstsOf ops).filter (fun t => n.kept.contains t) }) (Lf := fun fr' h' => (runIts cf its [] fr h).Leaf .norm fr' h') hr0 hcf e hb rfl hd ?_ ops.size _ a _ (by simp) (by simp) ?_ ⟨its3, rds3, nam3, nm3, st3, h3, ι, ord3, g1, g2, g3, g4, g5⟩
  · intro a' w' fr' h' ι' hl he hst hdf
    exact ⟨.norm, fr', h', ι', hl, rfl, he, (Step.drawn hr _).trans hst, hdf⟩
  · intro i o hi
    by_cases hlt : i < ops.size <;> simp [hlt] at hi
end Go.Am
namespace Go.Am
open Go.ChangeShapes Go.WideShapes Go.ChangeAt Go.RowKit

/-! ### numbers -/
noncomputable def P.of : Nat → P
  | 0 => .z
  | n + 1 => (P.of n).succ
theorem P.num_of : ∀ n, (P.of n).num = n
  | 0 => rfl
  | n + 1 => by show (P.of n).succ.num = _; rw [P.num_succ, P.num_of n]
theorem P.of_num (p : P) : P.of p.num = p := P.num_inj (P.num_of _)

/-! ### the memory at the beginning: blocks that are only read, behind the globals' ids -/
noncomputable def heapOf : Nat → List (Option (List V)) → T Blk
  | _, [] => .nil
  | n, some cs :: r => (heapOf (n + 1) r).set (P.of n) (.cells cs true)
  | n, none :: r => heapOf (n + 1) r
noncomputable def H0 (ng : Nat) (bs : List (Option (List V))) : H := ⟨heapOf ng bs, P.of (ng + bs.length)⟩
def io0 (ng : Nat) (ls : List Loc) : Io := fun p => if p.num < ng then some ⟨p.num, 0, 0, 0⟩ else ls[p.num - ng]?

theorem heapOf_get (p : P) : ∀ (bs : List (Option (List V))) (n : Nat) (x : Blk), (heapOf n bs).get p = some x ↔ n ≤ p.num ∧ ∃ cs, bs[p.num - n]? = some (some cs) ∧ x = .cells cs true
  | [], n, x => by simp [heapOf, T.get_nil]
  | none :: r, n, x => by
    rw [heapOf, heapOf_get p r (n + 1)]
    constructor
    · rintro ⟨h1, cs, h2, h3⟩
      refine ⟨by omega, cs, ?_, h3⟩
      rw [show p.num - n = (p.num - (n + 1)) + 1 by omega]
      simpa using h2
    · rintro ⟨h1, cs, h2, h3⟩
      cases hk : p.num - n with
      | zero => rw [hk] at h2; simp at h2
      | succ k =>
        refine ⟨by omega, cs, ?_, h3⟩
        rw [show p.num - n = (p.num - (n + 1)) + 1 by omega] at h2
        simpa using h2
  | some cs0 :: r, n, x => by
    rw [heapOf, T.get_set]
    by_cases h : P.of n = p
    · have hn : n = p.num := by rw [← h, P.num_of]
      rw [if_pos h]
      subst hn
      constructor
      · intro e
        exact ⟨Nat.le_refl _, cs0, by simp, (Option.some.inj e).symm⟩
      · rintro ⟨_, cs, h2, rfl⟩
        simp at h2
        rw [h2]
    · rw [if_neg h, heapOf_get p r (n + 1)]
      have hne : n ≠ p.num := fun e => h (by rw [e, P.of_num])
      constructor
      · rintro ⟨h1, cs, h2, h3⟩
        refine ⟨by omega, cs, ?_, h3⟩
        rw [show p.num - n = (p.num - (n + 1)) + 1 by omega]
        simpa using h2
      · rintro ⟨h1, cs, h2, h3⟩
        refine ⟨by omega, cs, ?_, h3⟩
        rw [show p.num - n = (p.num - (n + 1)) + 1 by omega] at h2
        simpa using h2

structure Given (ng : Nat) (ls : List Loc) (bs : List (Option (List V))) (w : World) : Prop where
  len : ls.length = bs.length
  blk : ∀ (i : Nat) l cs, ls[i]? = some l → bs[i]? = some (some cs) → ∃ o, w.heap[l.g]? = some o ∧ BlkR (io0 ng ls) l (.cells cs true) o

theorem Given.rel {ng : Nat} {ls : List Loc} {bs : List (Option (List V))} {w : World} (g : Given ng ls bs w) : Rel (io0 ng ls) (H0 ng bs) w := by
  have get : ∀ b x, (H0 ng bs).get b = some x → ng ≤ b.num ∧ ∃ cs, bs[b.num - ng]? = some (some cs) ∧ x = .cells cs true := fun b x hb => (heapOf_get b bs ng x).1 hb
  have next : (H0 ng bs).next.num = ng + bs.length := P.num_of _
  refine ⟨?_, ?_, ?_, ?_⟩
  · intro b x hb _
    obtain ⟨h1, cs, h2, rfl⟩ := get b x hb
    have hlt : b.num - ng < ls.length := by rw [g.len]; exact (List.getElem?_eq_some_iff.1 h2).1
    obtain ⟨o, e1, e2⟩ := g.blk (b.num - ng) ls[b.num - ng] cs (by simp [hlt]) h2
    exact ⟨ls[b.num - ng], o, by unfold io0; rw [if_neg (by omega)]; simp [hlt], e1, e2⟩
  · intro b c x y l m hb hc hwr
    obtain ⟨_, cs, _, rfl⟩ := get b x hb
    cases hwr
  · intro b l hl
    rw [next]
    unfold io0 at hl
    split at hl
    · omega
    · have := (List.getElem?_eq_some_iff.1 hl).1
      rw [g.len] at this
      omega
  · intro b x hb
    obtain ⟨h1, cs, h2, _⟩ := get b x hb
    have := (List.getElem?_eq_some_iff.1 h2).1
    rw [next]
    omega
theorem io0_glob (ng : Nat) (ls : List Loc) (p : P) (hp : p.num < ng) : ∃ l, io0 ng ls p = some l ∧ l.g = p.num ∧ l.d = 0 := ⟨⟨p.num, 0, 0, 0⟩, if_pos hp, rfl, rfl⟩
theorem io0_at (ng : Nat) (ls : List Loc) {i : Nat} {l : Loc} (h : ls[i]? = some l) : io0 ng ls (P.of (ng + i)) = some l := by
  unfold io0
  rw [P.num_of, if_neg (by omega), show ng + i - ng = i by omega]
  exact h
theorem Given.none (ng : Nat) (w : World) : Given ng [] [] w := ⟨rfl, fun i l cs h => by simp at h⟩

/-! ### what of the world stays -/
structure Old (w w' : World) : Prop where
  os : w'.os = w.os
  output : w'.output = w.output
  size : w.heap.size ≤ w'.heap.size
  keep : ∀ g, g < w.heap.size → w'.heap[g]? = w.heap[g]?
theorem Old.kept {w w' : World} (h : Old w w') (may : MemPlace → Prop) : w.keptBut w' may := by
  refine ⟨h.os, h.output, fun i hi => ?_⟩
  rw [h.keep i hi]
  cases ho : w.heap[i]? with
  | none => rfl
  | some o => cases o <;> simp

theorem Given.old {ng : Nat} {ls : List Loc} {bs : List (Option (List V))} {w w' : World} {ι' : Io} {h' : H} (s : Step (io0 ng ls) (H0 ng bs) w ι' h' w') : Old w w' := by
  refine ⟨s.os, s.output, s.size, fun g hg => s.keep g hg ?_⟩
  rintro ⟨b, x, l, hb, hwr, _⟩
  obtain ⟨_, cs, _, rfl⟩ := (heapOf_get b bs ng x).1 hb
  cases hwr

/-- a run of the machine that ends with true, whatever was left open -/
def AllTrue (r : R) : Prop := r.safe ∧ ∀ v h, r.Leaf v h → v = .bool true
theorem AllTrue.of_eq {r : R} {h : H} (e : r = .ok (.bool true) h) : AllTrue r := by
  subst e
  exact ⟨trivial, fun v h l => by cases l; rfl⟩

noncomputable def R.heap (r : R) : H := R.casesOn (motive := fun _ => H) r ⟨.nil, .z⟩ (fun _ h => h) (fun _ _ => ⟨.nil, .z⟩)
noncomputable def V.isTrue (v : V) : Bool := V.casesOn (motive_1 := fun _ => Bool) v (fun _ _ => false) (fun b => b) (fun _ => false) false (fun _ _ => false) false (fun _ _ _ _ => false) false (fun _ => false) (fun _ _ _ => false) false (fun _ _ => false) false (fun _ => false) (fun _ => false) false false
noncomputable def allBelow (n : Nat) (f : Nat → Bool) : Bool := Nat.rec (motive := fun _ => Bool) true (fun k ih => cond (f k) ih false) n
noncomputable def R.all (r : R) : Bool := R.rec (motive := fun _ => Bool) false (fun v _ => v.isTrue) (fun n _ ih => cond (Nat.blt 0 n) (allBelow n ih) false) r
theorem V.isTrue_spec {v : V} (h : v.isTrue = true) : v = .bool true := by
  cases v <;> first | (cases h; done) | skip
  rename_i b
  cases b
  · cases h
  · rfl
theorem allBelow_spec {f : Nat → Bool} : ∀ {n : Nat}, allBelow n f = true → ∀ i, i < n → f i = true
  | 0, _, i, hi => by omega
  | n + 1, h, i, hi => by
    have h : cond (f n) (allBelow n f) false = true := h
    cases hf : f n with
    | false => rw [hf] at h; cases h
    | true =>
      rw [hf] at h
      rcases Nat.lt_or_ge i n with h1 | h1
      · exact allBelow_spec h i h1
      · have : i = n := by omega
        rw [this]; exact hf
theorem R.all_spec : ∀ {r : R}, r.all = true → AllTrue r
  | .no, h => by cases h
  | .ok v h0, h => ⟨trivial, fun u k l => by cases l; exact V.isTrue_spec h⟩
  | .ask n k, h => by
    have h : cond (Nat.blt 0 n) (allBelow n fun i => (k i).all) false = true := h
    cases hb : Nat.blt 0 n with
    | false => rw [hb] at h; cases h
    | true =>
      rw [hb] at h
      have h1 := allBelow_spec h
      refine ⟨⟨(natBlt_iff _ _).1 hb, fun i hi => (R.all_spec (h1 i hi)).1⟩, fun v h' l => ?_⟩
      cases l with
      | ask i hi l => exact (R.all_spec (h1 i hi)).2 v h' l

theorem law_calls {Pg : Program} {ng : Nat} {cf : CallF} (hcf : CfOK Pg ng cf) {p : P} {fn : Func} (hf : Pg.funcs[p.num]? = some fn) (hb : fn.body.isSome = true) (hname : fn.name ≠ "runtime.NumGoroutine") {vs : List V} {args : Array Value} {ls : List Loc} {bs : List (Option (List V))} {w : World}
    (g : Given ng ls bs w) (ha : VRs (io0 ng ls) vs args.toList) (ht : AllTrue (cf p vs (H0 ng bs))) : Calls Pg p.num args w fun e w' => e = .returned (.bool true) ∧ Old w w' := by
  rcases hcf p vs (H0 ng bs) ht.1 (io0 ng ls) w args g.rel (io0_glob ng ls) ha with ⟨_, h2⟩ | ⟨v, w', h1, _⟩
  · refine h2.mono fun e w' he => ?_
    cases e with
    | returned v =>
      obtain ⟨u, h', ι', hl, hv, hs⟩ := he
      obtain rfl := ht.2 u h' hl
      generalize v = v' at hv
      cases hv
      exact ⟨rfl, Given.old hs⟩
    | _ => exact he.elim
  · obtain ⟨c, hb⟩ := Option.isSome_iff_exists.1 hb
    rw [callFunc_enter hf hb hname] at h1
    cases h1

/-! ### all functions of the machine -/
def T.All {α : Type} (Q : P → α → Prop) : T α → (P → P) → Prop
  | .nil, _ => True
  | .node l v r, k => T.All Q l (fun p => k (.l p)) ∧ (∀ a, v = some a → Q (k .z) a) ∧ T.All Q r (fun p => k (.r p))
theorem T.All.get {α : Type} {Q : P → α → Prop} : ∀ (p : P) (t : T α) (k : P → P) (a : α), T.All Q t k → t.get p = some a → Q (k p) a
  | p, .nil, k, a, _, h => by rw [T.get_nil] at h; cases h
  | .z, .node l v r, k, a, h, e => h.2.1 a e
  | .l p, .node l v r, k, a, h, e => T.All.get p l _ a h.1 e
  | .r p, .node l v r, k, a, h, e => T.All.get p r _ a h.2.2 e
def FnIs (Pg : Program) (ng : Nat) (p : P) (f : AF) : Prop := (∃ fn, Pg.funcs[p.num]? = some fn ∧ okFn (chk Pg) (okD Pg) (tyOf Pg) ng fn f = true) ∨ ∃ e, f.ext = some e ∧ ExtOK Pg e p.num
theorem fns_ok {Pg : Program} {ng : Nat} {fns : T AF} {loops : Nat} (h : T.All (FnIs Pg ng) fns id) (d : Nat) : CfOK Pg ng (call fns loops d) :=
  call_ok (chk_ok Pg) (okD_ok Pg) (tyOf_ok Pg) (fun p f hf => T.All.get p fns id f h hf) d

/-- the types' parts are in the table; no slice of elements without cells -/
def partOk (Pg : Program) (d : TypeDesc) : Bool := match d with
  | .pointer e => Nat.blt e Pg.types.size
  | .slice e => Nat.blt e Pg.types.size && !(Nat.beq (Pg.cellsOf e) 0)
  | .struct fs => fs.toList.all fun f => Nat.blt f.type Pg.types.size
  | .array _ e => Nat.blt e Pg.types.size
  | .map _ e => Nat.blt e Pg.types.size
  | _ => true
def tabOk (Pg : Program) : Bool := (List.range Pg.types.size).all fun t => match Pg.underlying t with
  | some d => partOk Pg d
  | none => true
theorem tabOk_spec {Pg : Program} (h : tabOk Pg = true) {t : TypeId} {d : TypeDesc} (ht : t < Pg.types.size) (hd : Pg.underlying t = some d) : partOk Pg d = true := by
  unfold tabOk at h
  rw [List.all_eq_true] at h
  have := h t (List.mem_range.2 ht)
  rw [hd] at this
  exact this

/-! ### the arguments read as they did -/
section
variable {α : Type} {enc : TypeId × Value → α} {Pg : Program} {w w' : World}
theorem mapM_old {β γ : Type} {f g : β → Option γ} : ∀ (l : List β) (ys : List γ), (∀ a ∈ l, ∀ y, f a = some y → g a = some y) → l.mapM f = some ys → l.mapM g = some ys
  | [], ys, _, h => by simpa using h
  | a :: l, ys, hk, h => by
    rw [List.mapM_cons] at h ⊢
    cases hf : f a with
    | none => rw [hf] at h; simp at h
    | some y =>
      rw [hf] at h
      rw [hk a List.mem_cons_self y hf]
      simp only [Option.bind_eq_bind, Option.bind_some] at h ⊢
      cases hl : l.mapM f with
      | none => rw [hl] at h; simp at h
      | some zs =>
        rw [hl] at h
        rw [mapM_old l zs (fun b hb => hk b (List.mem_cons_of_mem _ hb)) hl]
        exact h
theorem cell_old (h : ∀ g, g < w.heap.size → w'.heap[g]? = w.heap[g]?) {a : Addr} {v : Value} (e : w.cell? a = some v) : w'.cell? a = some v ∧ a.block < w.heap.size := by
  have hlt : a.block < w.heap.size := by
    by_cases hl : a.block < w.heap.size
    · exact hl
    · exfalso
      have : w.heap[a.block]? = none := by simp; omega
      simp [World.cell?, this] at e
  refine ⟨?_, hlt⟩
  rw [← e]
  simp [World.cell?, h a.block hlt]
theorem cells_old (h : ∀ g, g < w.heap.size → w'.heap[g]? = w.heap[g]?) {a : Addr} {n : Nat} {vs : List Value} (e : w.cells? 0 a n = some vs) : w'.cells? 0 a n = some vs ∧ (n ≠ 0 → a.block < w.heap.size) := by
  unfold World.cells? at e ⊢
  rw [if_pos (Nat.zero_le _)] at e ⊢
  refine ⟨mapM_old _ _ (fun i _ y hy => (cell_old h hy).1) e, fun hn => ?_⟩
  cases n with
  | zero => exact absurd rfl hn
  | succ n =>
    rw [List.range_succ_eq_map, List.mapM_cons] at e
    cases hc : w.cell? (a.add 0) with
    | none => rw [hc] at e; simp at e
    | some v => exact (cell_old h hc).2
theorem trod_old (hz : tabOk Pg = true) (h : ∀ g, g < w.heap.size → w'.heap[g]? = w.heap[g]?) : ∀ (fuel : Nat) (t : TypeId) (cs : List Value) (x : DataW α × List MemPlace), t < Pg.types.size →
    DataW.trod enc Pg w 0 (fun _ => true) true fuel t cs = some x → DataW.trod enc Pg w' 0 (fun b => decide (b < w.heap.size)) true fuel t cs = some x := by
  intro fuel
  induction fuel with
  | zero => intro t cs x _ e; cases e
  | succ fuel ih =>
    intro t cs x ht
    unfold DataW.trod
    have bind : ∀ (a : Addr) (e : TypeId) (y : DataW α × List MemPlace), e < Pg.types.size → (w.cells? 0 a (Pg.cellsOf e)).bind (DataW.trod enc Pg w 0 (fun _ => true) true fuel e) = some y → (w'.cells? 0 a (Pg.cellsOf e)).bind (DataW.trod enc Pg w' 0 (fun b => decide (b < w.heap.size)) true fuel e) = some y ∧ (Pg.cellsOf e ≠ 0 → a.block < w.heap.size) := by
      intro a e y he hy
      obtain ⟨vs, h1, h2⟩ := Option.bind_eq_some_iff.1 hy
      obtain ⟨h3, h4⟩ := cells_old h h1
      exact ⟨by rw [h3]; exact ih _ _ _ he h2, h4⟩
    generalize hu : Pg.underlying t = u
    rcases u with _ | d
    · exact id
    have hpart := tabOk_spec hz ht hu
    cases d
    case struct fs =>
      intro hx
      have hpart : (fs.toList.all fun f => Nat.blt f.type Pg.types.size) = true := hpart
      rw [List.all_eq_true] at hpart
      dsimp only at hx ⊢
      split at hx
      · rename_i hl
        rw [if_pos hl]
        obtain ⟨ys, h1, h2⟩ := Option.map_eq_some_iff.1 hx
        rw [mapM_old _ ys (fun f hf y hy => ih _ _ _ ((natBlt_iff _ _).1 (hpart f hf)) hy) h1]
        exact congrArg some h2
      · cases hx
    case array n e =>
      intro hx
      dsimp only at hx ⊢
      split at hx
      · rename_i hl
        rw [if_pos hl]
        obtain ⟨ys, h1, h2⟩ := Option.map_eq_some_iff.1 hx
        rw [mapM_old _ ys (fun f _ y hy => ih _ _ _ ((natBlt_iff _ _).1 hpart) hy) h1]
        exact congrArg some h2
      · cases hx
    all_goals rcases cs with _ | ⟨v, _ | ⟨v2, cs⟩⟩
    all_goals try exact id
    all_goals cases v
    all_goals try exact id
    all_goals try (rename_i a; cases a <;> exact id)
    all_goals try (rename_i a b c; cases a <;> cases b <;> cases c <;> exact id)
    case pointer.cons.nil.pointer e a =>
      cases a with
      | none => exact id
      | some a =>
        intro hx
        obtain ⟨y, h1, h2⟩ := Option.map_eq_some_iff.1 hx
        show Option.map _ ((w'.cells? 0 a (Pg.cellsOf e)).bind (DataW.trod enc Pg w' 0 (fun b => decide (b < w.heap.size)) true fuel e)) = _
        rw [(bind a e y ((natBlt_iff _ _).1 hpart) h1).1]
        exact congrArg some h2
    case map.cons.nil.map k e a =>
      cases a with
      | none => exact id
      | some b =>
        dsimp only
        cases hb : w.heap[b]? with
        | none => intro hx; cases hx
        | some o =>
          have hlt : b < w.heap.size := (Array.getElem?_eq_some_iff.1 hb).1
          rw [h b hlt, hb]
          cases o with
          | map es clock =>
            dsimp only
            split
            · intro hx
              obtain ⟨ys, h1, h2⟩ := Option.bind_eq_some_iff.1 hx
              rw [mapM_old (g := fun x => (keyOf Pg k x.key).bind fun key => if Value.formed Pg e x.val = true then Option.map (fun y => ((key, y.fst), y.snd)) (DataW.trod enc Pg w' 0 (fun b => decide (b < w.heap.size)) true fuel e x.val.cells.toList) else none) _ ys (fun f _ y hy => ?_) h1]
              · exact h2
              · obtain ⟨key, k1, k2⟩ := Option.bind_eq_some_iff.1 hy
                rw [k1]
                dsimp only [Option.bind_some]
                split at k2
                · rename_i hf
                  rw [if_pos hf]
                  obtain ⟨z, z1, z2⟩ := Option.map_eq_some_iff.1 k2
                  rw [ih _ _ _ ((natBlt_iff _ _).1 hpart) z1]
                  exact congrArg some z2
                · cases k2
            · exact id
          | _ => exact id
    case slice.cons.nil.slice e a len cap =>
      cases a with
      | none => cases len <;> cases cap <;> exact id
      | some a =>
        have hpart : (Nat.blt e Pg.types.size && !(Nat.beq (Pg.cellsOf e) 0)) = true := hpart
        simp only [Bool.and_eq_true, natBlt_iff] at hpart
        obtain ⟨he, hz0⟩ := hpart
        have hz0 : Pg.cellsOf e ≠ 0 := by
          intro h0
          rw [h0] at hz0
          cases hz0
        dsimp only
        split
        · intro hx
          obtain ⟨ys, h1, h2⟩ := Option.bind_eq_some_iff.1 hx
          have el : ∀ i y, (w.cells? 0 (a.add (i * Pg.cellsOf e)) (Pg.cellsOf e)).bind (DataW.trod enc Pg w 0 (fun _ => true) true fuel e) = some y → (w'.cells? 0 (a.add (i * Pg.cellsOf e)) (Pg.cellsOf e)).bind (DataW.trod enc Pg w' 0 (fun b => decide (b < w.heap.size)) true fuel e) = some y := fun i y hy => (bind _ e y he hy).1
          rw [mapM_old _ ys (fun i _ y hy => el i y hy) h1]
          dsimp only [Option.bind_some]
          rw [if_pos rfl] at h2
          obtain ⟨zs, h3, h4⟩ := Option.map_eq_some_iff.1 h2
          by_cases hlt : a.block < w.heap.size
          · rw [if_pos (by simpa using hlt), mapM_old _ zs (fun i _ y hy => el _ y hy) h3]
            exact congrArg some h4
          · rw [if_neg (by simpa using hlt)]
            cases hn : cap - len with
            | zero =>
              rw [hn] at h3
              obtain rfl : [] = zs := by simpa using h3
              exact congrArg some h4
            | succ n =>
              exfalso
              rw [hn, List.range_succ_eq_map, List.mapM_cons] at h3
              cases hq : (w.cells? 0 (a.add ((len + 0) * Pg.cellsOf e)) (Pg.cellsOf e)).bind (DataW.trod enc Pg w 0 (fun _ => true) true fuel e) with
              | none => rw [hq] at h3; simp at h3
              | some y => exact hlt (by have := (bind _ e y he hq).2 hz0; unfold Addr.add at this; split at this <;> exact this)
        · exact id
theorem trodAll_old (hz : tabOk Pg = true) (h : ∀ g, g < w.heap.size → w'.heap[g]? = w.heap[g]?) : ∀ (ts : List TypeId) (vs : List Value) (ds : List (DataW α)) (ps : List MemPlace), (∀ t ∈ ts, t < Pg.types.size) →
    DataW.TrodAll enc Pg w 0 (fun _ => true) true ts vs ds ps → DataW.TrodAll enc Pg w' 0 (fun b => decide (b < w.heap.size)) true ts vs ds ps
  | [], [], [], _, _, e => e
  | t :: ts, v :: vs, d :: ds, _, ht, ⟨p, q, ⟨fuel, h1⟩, h2, e⟩ => ⟨p, q, ⟨fuel, trod_old hz h fuel t _ _ (ht t List.mem_cons_self) h1⟩, trodAll_old hz h ts vs ds q (fun u hu => ht u (List.mem_cons_of_mem _ hu)) h2, e⟩
  | [], [], _ :: _, _, _, e => e.elim
  | [], _ :: _, _, _, _, e => e.elim
  | _ :: _, [], _, _, _, e => e.elim
  | _ :: _, _ :: _, [], _, _, e => e.elim

/-- a law that answered true, and left all that was there -/
theorem law_post {f : Func} {s : ChangeSpec} {W W' : World} {args : Array Value} {ds gs : List (DataW α)} {before : List MemPlace} (hz : tabOk Pg = true) (hps : (f.params.toList.all fun t => Nat.blt t Pg.types.size) = true) {tb : TypeId} (hb : Pg.underlying tb = some .bool) (hres : f.resultTypes = #[tb])
    (hvars : s.vars = []) (hs : s.fn α (ds ++ []) = { results := [.lit (.bool true)], args := ds }) (hW : DataW.Whole enc Pg f.params.toList s.vars false W args.toList ds gs before) (ho : Old W W') :
    s.post enc Pg f false true false false W args (.bool true) W' := by
  obtain ⟨p, q, hA, hV, e, hfz, hnd⟩ := hW
  have hgs : gs = [] ∧ q = [] := by
    rw [hvars] at hV
    cases gs with
    | nil => exact ⟨rfl, hV⟩
    | cons => exact hV.elim
  obtain ⟨rfl, rfl⟩ := hgs
  refine ⟨ds, [], before, [], p, [], ⟨p, [], hA, hV, e, hfz, hnd⟩, ?_, ?_, ?_, ho.kept _, fun h => by cases h⟩
  · rw [hs, hres]
    refine ⟨[], [], ⟨1, ?_⟩, rfl, rfl⟩
    show DataW.trod enc Pg W' W.heap.size (fun _ => false) false 1 tb [.bool true] = _
    unfold DataW.trod
    rw [hb]
  · rw [hs]
    exact trodAll_old hz ho.keep _ _ _ _ (fun t ht => (natBlt_iff _ _).1 (List.all_eq_true.1 hps t ht)) hA
  · rw [hs, hvars]
    rfl
end
end Go.Am
namespace Go.Am
noncomputable def ixAt (c : Int) (s : List Nat) (i : Nat) : Int := List.rec (motive := fun _ => Nat → Int) (fun _ => -1) (fun x _ ih i => cond (intEq (Int.ofNat x) c) (Int.ofNat i) (ih (Nat.succ i))) s i
theorem indexByte_ge : ∀ (l : List UInt8) (c : UInt8), -1 ≤ Lib.indexByte l c
  | [], c => by show (-1 : Int) ≤ -1; omega
  | b :: l, c => by
    have ih := indexByte_ge l c
    rw [Lib.indexByte]
    split
    · omega
    · split <;> omega
theorem ixAt_eq (c : Nat) (hc : c < 256) : ∀ (l : List UInt8) (i : Nat), ixAt (Int.ofNat c) (l.map (·.toNat)) i = if Lib.indexByte l (UInt8.ofNat c) = -1 then -1 else Lib.indexByte l (UInt8.ofNat c) + i
  | [], i => by rw [show Lib.indexByte [] (UInt8.ofNat c) = -1 from rfl, if_pos rfl]; rfl
  | x :: l, i => by
    have hx : intEq (Int.ofNat x.toNat) (Int.ofNat c) = (x == UInt8.ofNat c) := by
      rw [intEq_dec, Bool.eq_iff_iff, beq_iff_eq, beq_iff_eq]
      constructor
      · intro h
        have h : x.toNat = c := by have : (x.toNat : Int) = (c : Int) := h; omega
        rw [← h]; simp
      · intro h; rw [h]; simp; omega
    show cond (intEq (Int.ofNat x.toNat) (Int.ofNat c)) (Int.ofNat i) (ixAt (Int.ofNat c) (l.map (·.toNat)) (i + 1)) = _
    have hge := indexByte_ge l (UInt8.ofNat c)
    rw [hx, ixAt_eq c hc l (i + 1), Lib.indexByte]
    cases hb : x == UInt8.ofNat c with
    | true => simp
    | false =>
      simp only [cond_false, Bool.false_eq_true, if_false, beq_iff_eq]
      by_cases h1 : Lib.indexByte l (UInt8.ofNat c) = -1
      · simp [h1]
      · rw [if_neg h1, if_neg h1, if_neg (by omega)]; omega
theorem extIx_inv {h : H} {vs : List V} (hs : (extR h .indexByteString vs).safe) : ∃ s c, vs = [.str s, .int .u8 (Int.ofNat c)] ∧ c < 256 ∧ extR h .indexByteString vs = .ok (.int .i64 (indexByte (Int.ofNat c) s)) h := by
  unfold extR at hs
  split at hs
  · rename_i heq; cases heq
  · rename_i s c _
    cases hc : Nat.blt c 256 with
    | false => rw [hc] at hs; exact hs.elim
    | true => exact ⟨s, c, rfl, (natBlt_iff _ _).1 hc, by show cond (Nat.blt c 256) _ _ = _; rw [hc]; rfl⟩
  · rename_i heq; cases heq
  · rename_i heq; cases heq
  · rename_i heq; cases heq
  · exact hs.elim
theorem ext_indexByteString {Pg : Program} {g : Nat} {fn : Func} (hf : Pg.funcs[g]? = some fn) (hname : (fn.name == "runtime.NumGoroutine") = false) (hb : fn.body.isNone = true) (hn : Extern.findNext fn = none) (he : Extern.find fn = some Extern.BytealgIndexByte.indexByte) : ExtOK Pg .indexByteString g := by
  intro vs h hs ι w args hr ha
  obtain ⟨s, c, rfl, hc, e⟩ := extIx_inv hs
  obtain ⟨v1, t1, h1, hv1, ha⟩ := VRs.inv ha
  obtain ⟨v2, t2, h2, hv2, ha⟩ := VRs.inv ha
  have h3 := ha.nil_inv
  subst h2 h3
  obtain ⟨b, rfl, rfl⟩ := hv1.str_inv
  have h4 := hv2.int_inv
  subst h4
  obtain rfl : args = #[.string b, .int .u8 (Int.ofNat c)] := by cases args; simp_all
  refine .inr ⟨.int .i64 (Lib.indexByte b.data.toList (Int.ofNat c).toNat.toUInt8), w, ?_, ?_⟩
  · rw [run_callFunc_indexByte hf hname hb hn he, Lib.run_indexByteString]; rfl
  · have e2 : indexByte (Int.ofNat c) (b.data.toList.map (·.toNat)) = Lib.indexByte b.data.toList (UInt8.ofNat c) := by
      have := ixAt_eq c hc b.data.toList 0
      show ixAt (Int.ofNat c) _ 0 = _
      rw [this]
      split
      · rename_i h; rw [h]
      · omega
    rw [e, e2]
    exact ⟨_, h, ι, .ok _ _, .int _ _, Step.refl hr⟩
end Go.Am
namespace Go.Am
open Go.ChangeShapes Go.WideShapes Go.ChangeAt Go.RowKit
def litV : Lit → V
  | .int k n => .int k n
  | .bool b => .bool b
  | .string l => .str (l.map (·.toNat))
  | _ => .junk
theorem laid_reads {P : Program} {w : World} : ∀ {l : List (String × DataW Unit)} {ps : List MemPlace}, DataW.LaidVars P w l ps → ∀ n d, (n, d) ∈ l →
    ∃ g t cs fuel p, P.globalNamed n = some g ∧ (P.globals[g]?).map (·.type) = some t ∧ w.var? P n = some cs ∧ DataW.trod (fun _ => ()) P w 0 (fun _ => true) false fuel t cs.toList = some (d, p)
  | [], _, _, _, _, hm => by cases hm
  | (n', d') :: r, ps, h, n, d, hm => by
    obtain ⟨g, t, cs, fuel, p, q, h1, h2, h3, h4, h5, _⟩ := h
    rcases List.mem_cons.1 hm with e | e
    · cases e
      exact ⟨g, t, cs, fuel, p, h1, h2, h3, h4⟩
    · exact laid_reads h5 n d e
/-- the type of a scalar -/
def scTy : Option TypeDesc → Bool
  | some (.int _) => true
  | some .string => true
  | _ => false
theorem sc_cell {P : Program} {w : World} {fuel : Nat} {e : TypeId} {cs : List Value} {l : Lit} {p : List MemPlace} (he : scTy (P.underlying e) = true) (h : DataW.trod (fun _ => ()) P w 0 (fun _ => true) false fuel e cs = some (.lit l, p)) : ∃ v, cs = [v] ∧ v.oneCell' = true ∧ ∀ ι, VR ι (litV l) v := by
  cases hu : P.underlying e with
  | none => rw [hu] at he; cases he
  | some d =>
    rw [hu] at he
    cases d <;> first | (cases he; done) | skip
    · obtain ⟨n, rfl, e2, _⟩ := DataW.trod_int hu h
      obtain rfl := (DataW.lit.inj (Prod.mk.inj e2).1)
      exact ⟨_, rfl, rfl, fun ι => .int _ _⟩
    · obtain ⟨s, rfl, e2, _⟩ := DataW.trod_string hu h
      obtain rfl := (DataW.lit.inj (Prod.mk.inj e2).1)
      exact ⟨_, rfl, rfl, fun ι => .str s⟩
/-- a variable that is an array of scalars -/
theorem arr_laid {P : Program} {w : World} {l : List (String × DataW Unit)} (hl : laidMet P l w) {name : String} {ls : List Lit} (hm : (name, .agg (ls.map .lit)) ∈ l) {g : Nat} {t e : TypeId} {n : Nat} (hg : P.globalNamed name = some g) (ht : (P.globals[g]?).map (·.type) = some t) (hu : P.underlying t = some (.array n e))
    (hc : P.cellsOf e = 1) (he : scTy (P.underlying e) = true) (hn : ls.length = n) :
    ∃ lc : Loc, lc.g = g ∧ lc.d = 0 ∧ ∃ o, w.heap[lc.g]? = some o ∧ ∀ ι, BlkR ι lc (.cells (ls.map litV) true) o := by
  obtain ⟨ps, hv, _⟩ := hl
  obtain ⟨g', t', cs, fuel, p, h1, h2, h3, h4⟩ := laid_reads hv name _ hm
  obtain rfl := Option.some.inj (hg.symm.trans h1)
  obtain rfl := Option.some.inj (ht.symm.trans h2)
  obtain ⟨xs, m, _, ex, _, hxl, hel⟩ := DataW.trod_array hu h4
  have hb : ∃ ty fz, w.heap[g]? = some (.cells cs ty fz) := by
    simp only [World.var?, hg, Option.bind_some] at h3
    split at h3
    · rename_i c ty fz hh
      obtain rfl := Option.some.inj h3
      exact ⟨ty, fz, hh⟩
    · cases h3
  obtain ⟨ty, fz, hb⟩ := hb
  have e4 : xs.map (·.1) = ls.map .lit := (DataW.agg.inj (Prod.mk.inj ex).1).symm
  have key : ∀ (j : Nat) (x : Lit), ls[j]? = some x → ∃ v, cs[j]? = some v ∧ v.oneCell' = true ∧ ∀ ι, VR ι (litV x) v := by
    intro j x hj
    have hjn : j < n := by rw [← hn]; exact (List.getElem?_eq_some_iff.1 hj).1
    have hx : (xs.map (·.1))[j]? = some (.lit x) := by rw [e4]; simp [hj]
    have hE := hel j hjn
    rw [hc, Nat.mul_one] at hE
    rw [List.getElem?_map] at hx
    obtain ⟨q, hq, hq2⟩ := Option.map_eq_some_iff.1 hx
    obtain ⟨d, p2⟩ := q
    simp only at hq2
    subst hq2
    rw [hq] at hE
    obtain ⟨v, f1, f2, f3⟩ := sc_cell he hE
    refine ⟨v, ?_, f2, f3⟩
    have h0 : ((cs.toList.drop j).take 1)[0]? = some v := by rw [f1]; rfl
    simpa using h0
  have hlen : ls.length ≤ cs.size := by
    cases hn0 : ls.length with
    | zero => omega
    | succ k =>
      obtain ⟨v, hv2, _⟩ := key k ls[k] (by simp)
      have := (Array.getElem?_eq_some_iff.1 hv2).1
      omega
  refine ⟨⟨g, 0, cs.size, ty⟩, rfl, rfl, _, hb, fun ι => .cells rfl (by simp; omega) (fun h => by cases h) fun j v hj => ?_⟩
  rw [List.getElem?_map] at hj
  obtain ⟨x, hx, rfl⟩ := Option.map_eq_some_iff.1 hj
  obtain ⟨v, k1, k2, k3⟩ := key j x hx
  exact ⟨v, by simpa using k1, k3 ι, k2⟩
/-- a law is called in a memory whose first blocks are the variables -/
theorem law_calls2 {Pg : Program} {ng : Nat} {cf : CallF} (hcf : CfOK Pg ng cf) {p : P} {fn : Func} (hf : Pg.funcs[p.num]? = some fn) (hb : fn.body.isSome = true) (hname : fn.name ≠ "runtime.NumGoroutine") {vs : List V} {args : Array Value} {ls : List Loc} {bs : List (Option (List V))} {w : World}
    (g : Given 0 ls bs w) (hng : ∀ i, i < ng → ∃ l, ls[i]? = some l ∧ l.g = i ∧ l.d = 0) (ha : VRs (io0 0 ls) vs args.toList) (ht : AllTrue (cf p vs (H0 0 bs))) : Calls Pg p.num args w fun e w' => e = .returned (.bool true) ∧ Old w w' := by
  rcases hcf p vs (H0 0 bs) ht.1 (io0 0 ls) w args g.rel (fun q hq => by
    obtain ⟨l, e1, e2, e3⟩ := hng q.num hq
    exact ⟨l, by unfold io0; rw [if_neg (by omega)]; simpa using e1, e2, e3⟩) ha with ⟨_, h2⟩ | ⟨v, w', h1, _⟩
  · refine h2.mono fun e w' he => ?_
    cases e with
    | returned v =>
      obtain ⟨u, h', ι', hl, hv, hs⟩ := he
      obtain rfl := ht.2 u h' hl
      generalize v = v' at hv
      cases hv
      exact ⟨rfl, Given.old hs⟩
    | _ => exact he.elim
  · obtain ⟨c, hb⟩ := Option.isSome_iff_exists.1 hb
    rw [callFunc_enter hf hb hname] at h1
    cases h1
end Go.Am
