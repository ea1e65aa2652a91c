/- Integers that stand for linear expressions; the operations on them. -/
import Derived.Test.YtanlbgabfehaoaaGreatDoorAmF
import Derived.Test.YtanlbgabfehaoaaGreatDoorAmE
namespace Go.Am

/-! ### digits to the base 2^128 -/
def dig (n : Int) : Int := cond (intLe 170141183460469231731687303715884105728 (Int.emod n 340282366920938463463374607431768211456)) (Int.emod n 340282366920938463463374607431768211456 - 340282366920938463463374607431768211456) (Int.emod n 340282366920938463463374607431768211456)
def quo (n : Int) : Int := Int.ediv (n - dig n) 340282366920938463463374607431768211456
theorem dig_spec (n : Int) : n = dig n + 340282366920938463463374607431768211456 * quo n ∧ -170141183460469231731687303715884105728 ≤ dig n ∧ dig n < 170141183460469231731687303715884105728 := by
  have e1 : Int.emod n 340282366920938463463374607431768211456 = n % 340282366920938463463374607431768211456 := rfl
  have e2 : quo n = (n - dig n) / 340282366920938463463374607431768211456 := rfl
  have e3 : dig n = if 170141183460469231731687303715884105728 ≤ n % 340282366920938463463374607431768211456 then n % 340282366920938463463374607431768211456 - 340282366920938463463374607431768211456 else n % 340282366920938463463374607431768211456 := by
    unfold dig
    rw [e1, intLe_dec]
    by_cases h : 170141183460469231731687303715884105728 ≤ n % 340282366920938463463374607431768211456
    · rw [if_pos h, decide_eq_true h, cond_true]
    · rw [if_neg h, decide_eq_false h, cond_false]
  rw [e2]
  split at e3 <;> omega
theorem dig_uniq {n d q : Int} (h : n = d + 340282366920938463463374607431768211456 * q) (h1 : -170141183460469231731687303715884105728 ≤ d) (h2 : d < 170141183460469231731687303715884105728) : dig n = d ∧ quo n = q := by
  obtain ⟨e1, e2, e3⟩ := dig_spec n
  omega
/-- a number of its own: below 2^126 -/
def pln (n : Int) : Bool := intLe (-85070591730234615865843651857942052863) n && intLe n 85070591730234615865843651857942052863
theorem pln_iff (n : Int) : pln n = true ↔ -85070591730234615865843651857942052863 ≤ n ∧ n ≤ 85070591730234615865843651857942052863 := by
  unfold pln; rw [Bool.and_eq_true, intLe_iff, intLe_iff]
theorem pln_dig {n : Int} (h : pln n = true) : dig n = n ∧ quo n = 0 := by
  rw [pln_iff] at h
  exact dig_uniq (by omega) (by omega) (by omega)

/-! ### what a number says -/
def evC : List Int → Int → Int
  | [], _ => 0
  | x :: ρ, q => dig q * x + evC ρ (quo q)
def dec (ρ : List Int) (n : Int) : Int := dig n + evC ρ (quo n)
def okG : Nat → Int → Bool
  | 0, q => intEq q 0
  | m + 1, q => intEq q 0 || (pln (dig q) && okG m (quo q))
def okC (m : Nat) (n : Int) : Bool := pln (dig n) && okG m (quo n)
theorem evC_zero : ∀ ρ : List Int, evC ρ 0 = 0
  | [] => rfl
  | x :: ρ => by
    obtain ⟨h1, h2⟩ := pln_dig (n := 0) rfl
    rw [evC, h1, h2, evC_zero ρ]; omega
theorem dec_pln {ρ : List Int} {n : Int} (h : pln n = true) : dec ρ n = n := by
  obtain ⟨h1, h2⟩ := pln_dig h
  rw [dec, h1, h2, evC_zero]; omega
theorem okG_inv {m : Nat} {q : Int} (h : okG (m + 1) q = true) : (-85070591730234615865843651857942052863 ≤ dig q ∧ dig q ≤ 85070591730234615865843651857942052863) ∧ okG m (quo q) = true := by
  have z : ∀ m, okG m 0 = true := by
    intro m
    cases m <;> simp [okG, intEq_iff]
  simp only [okG, Bool.or_eq_true, Bool.and_eq_true, pln_iff, intEq_iff] at h
  rcases h with rfl | h
  · obtain ⟨h1, h2⟩ := pln_dig (n := 0) rfl
    rw [h1, h2]
    exact ⟨by omega, z m⟩
  · exact h
theorem evC_add : ∀ (ρ : List Int) (a b : Int), okG ρ.length a = true → okG ρ.length b = true → evC ρ (a + b) = evC ρ a + evC ρ b
  | [], _, _, _, _ => rfl
  | x :: ρ, a, b, ha, hb => by
    have ha := okG_inv (show okG (ρ.length + 1) a = true from ha)
    have hb := okG_inv (show okG (ρ.length + 1) b = true from hb)
    obtain ⟨a1, _, _⟩ := dig_spec a
    obtain ⟨b1, _, _⟩ := dig_spec b
    obtain ⟨c1, c2⟩ := dig_uniq (n := a + b) (d := dig a + dig b) (q := quo a + quo b) (by omega) (by omega) (by omega)
    simp only [evC]
    rw [c1, c2, evC_add ρ _ _ ha.2 hb.2, Int.add_mul]; omega
theorem dec_add {ρ : List Int} {a b : Int} (ha : okC ρ.length a = true) (hb : okC ρ.length b = true) : dec ρ (a + b) = dec ρ a + dec ρ b := by
  simp only [okC, Bool.and_eq_true, pln_iff] at ha hb
  obtain ⟨a1, _, _⟩ := dig_spec a
  obtain ⟨b1, _, _⟩ := dig_spec b
  obtain ⟨c1, c2⟩ := dig_uniq (n := a + b) (d := dig a + dig b) (q := quo a + quo b) (by omega) (by omega) (by omega)
  simp only [dec]
  rw [c1, c2, evC_add ρ _ _ ha.2 hb.2]; omega
theorem evC_sub : ∀ (ρ : List Int) (a b : Int), okG ρ.length a = true → okG ρ.length b = true → evC ρ (a - b) = evC ρ a - evC ρ b
  | [], _, _, _, _ => rfl
  | x :: ρ, a, b, ha, hb => by
    have ha := okG_inv (show okG (ρ.length + 1) a = true from ha)
    have hb := okG_inv (show okG (ρ.length + 1) b = true from hb)
    obtain ⟨a1, _, _⟩ := dig_spec a
    obtain ⟨b1, _, _⟩ := dig_spec b
    obtain ⟨c1, c2⟩ := dig_uniq (n := a - b) (d := dig a - dig b) (q := quo a - quo b) (by omega) (by omega) (by omega)
    simp only [evC]
    rw [c1, c2, evC_sub ρ _ _ ha.2 hb.2, Int.sub_mul]; omega
theorem dec_sub {ρ : List Int} {a b : Int} (ha : okC ρ.length a = true) (hb : okC ρ.length b = true) : dec ρ (a - b) = dec ρ a - dec ρ b := by
  simp only [okC, Bool.and_eq_true, pln_iff] at ha hb
  obtain ⟨a1, _, _⟩ := dig_spec a
  obtain ⟨b1, _, _⟩ := dig_spec b
  obtain ⟨c1, c2⟩ := dig_uniq (n := a - b) (d := dig a - dig b) (q := quo a - quo b) (by omega) (by omega) (by omega)
  simp only [dec]
  rw [c1, c2, evC_sub ρ _ _ ha.2 hb.2]; omega

/-! ### bounds -/
def loC : List (Int × Int) → Int → Int
  | [], _ => 0
  | b :: bs, q => cond (intEq q 0) 0 (cond (intLe 0 (dig q)) (dig q * b.1) (dig q * b.2) + loC bs (quo q))
def lo (bs : List (Int × Int)) (n : Int) : Int := dig n + loC bs (quo n)
inductive Bnd : List (Int × Int) → List Int → Prop where
  | nil : Bnd [] []
  | cons {l u x : Int} {bs : List (Int × Int)} {ρ : List Int} : l ≤ x → x ≤ u → Bnd bs ρ → Bnd ((l, u) :: bs) (x :: ρ)
theorem loC_le : ∀ {bs : List (Int × Int)} {ρ : List Int} (q : Int), Bnd bs ρ → loC bs q ≤ evC ρ q
  | _, _, q, .nil => Int.le_refl _
  | _, _, q, .cons (l := l) (u := u) (x := x) h1 h2 h3 => by
    have ih := loC_le (quo q) h3
    simp only [loC, evC]
    by_cases hq : q = 0
    · subst hq
      obtain ⟨e1, e2⟩ := pln_dig (n := 0) rfl
      rw [show intEq 0 0 = true from rfl, cond_true, e1, e2, evC_zero]; omega
    rw [show intEq q 0 = false from by cases h : intEq q 0 with | false => rfl | true => exact absurd ((intEq_iff _ _).1 h) hq, cond_false]
    rw [intLe_dec]
    by_cases h : 0 ≤ dig q
    · rw [decide_eq_true h, cond_true]
      have := Int.mul_le_mul_of_nonneg_left h1 h
      omega
    · rw [decide_eq_false h, cond_false]
      have := Int.mul_le_mul_of_nonpos_left (a := dig q) (by omega) h2
      omega
theorem lo_le {bs : List (Int × Int)} {ρ : List Int} (n : Int) (h : Bnd bs ρ) : lo bs n ≤ dec ρ n := by
  have := loC_le (quo n) h
  unfold lo dec; omega

/-! ### what is known of the numbers -/
structure Ent where
  op : AOp
  k : IntKind
  a : Int
  b : Int
  r : Int
structure Ent2 where
  a : Int
  b : Int
  r : Int
structure SP where
  m : Nat
  bs : List (Int × Int)
  fs : List Int
  tbl : List Ent
  mxt : List Ent2
  mnt : List Ent2
noncomputable def anyL {α : Type} (f : α → Bool) (l : List α) : Bool := List.rec (motive := fun _ => Bool) false (fun a _ ih => cond (f a) true ih) l
theorem anyL_spec {α : Type} {f : α → Bool} : ∀ {l : List α}, anyL f l = true → ∃ a ∈ l, f a = true
  | [], h => by cases h
  | a :: l, h => by
    have h : cond (f a) true (anyL f l) = true := h
    cases hf : f a with
    | true => exact ⟨a, List.mem_cons_self, hf⟩
    | false =>
      rw [hf] at h
      obtain ⟨b, h1, h2⟩ := anyL_spec (show anyL f l = true from h)
      exact ⟨b, List.mem_cons_of_mem _ h1, h2⟩
/-- it is not below 0 -/
noncomputable def SP.nn (S : SP) (n : Int) : Bool := okC S.m n && (intLe 0 (lo S.bs n) || anyL (fun f => intLe 0 (lo S.bs (n - f))) S.fs)
def aopEq : AOp → AOp → Bool
  | .add, .add | .sub, .sub | .mul, .mul | .quo, .quo | .rem, .rem => true
  | _, _ => false
theorem aopEq_spec {a b : AOp} (h : aopEq a b = true) : a = b := by cases a <;> cases b <;> first | rfl | cases h
noncomputable def SP.look (S : SP) (op : AOp) (k : IntKind) (a b : Int) : Option Int :=
  List.rec (motive := fun _ => Option Int) none (fun e _ ih => cond (aopEq e.op op && kEq e.k k && intEq e.a a && intEq e.b b) (some e.r) ih) S.tbl
noncomputable def look2 (l : List Ent2) (a b : Int) : Option Int :=
  List.rec (motive := fun _ => Option Int) none (fun e _ ih => cond (intEq e.a a && intEq e.b b) (some e.r) ih) l
theorem look2_mem {a b r : Int} : ∀ {l : List Ent2}, look2 l a b = some r → ∃ e ∈ l, e.a = a ∧ e.b = b ∧ e.r = r
  | [], h => by cases h
  | e :: l, h => by
    have h : cond (intEq e.a a && intEq e.b b) (some e.r) (look2 l a b) = some r := h
    cases hc : (intEq e.a a && intEq e.b b) with
    | true =>
      rw [hc] at h
      obtain rfl := Option.some.inj (show some e.r = some r from h)
      simp only [Bool.and_eq_true, intEq_iff] at hc
      exact ⟨e, List.mem_cons_self, hc.1, hc.2, rfl⟩
    | false =>
      rw [hc] at h
      obtain ⟨e', h1, h2⟩ := look2_mem (show look2 l a b = some r from h)
      exact ⟨e', List.mem_cons_of_mem _ h1, h2⟩
structure SPok (ρ : List Int) (S : SP) : Prop where
  len : ρ.length = S.m
  bnd : Bnd S.bs ρ
  fact : ∀ f ∈ S.fs, okC S.m f = true ∧ 0 ≤ dec ρ f
  tbl : ∀ e ∈ S.tbl, ∀ h, arI e.op e.k (dec ρ e.a) (dec ρ e.b) h = .ok (.int e.k (dec ρ e.r)) h
  mxt : ∀ e ∈ S.mxt, max (dec ρ e.a) (dec ρ e.b) = dec ρ e.r
  mnt : ∀ e ∈ S.mnt, min (dec ρ e.a) (dec ρ e.b) = dec ρ e.r
theorem SPok.nn {ρ : List Int} {S : SP} (o : SPok ρ S) {n : Int} (h : S.nn n = true) : 0 ≤ dec ρ n := by
  simp only [SP.nn, Bool.and_eq_true, Bool.or_eq_true] at h
  obtain ⟨h1, h2 | h2⟩ := h
  · rw [intLe_iff] at h2
    have := lo_le n o.bnd; omega
  · obtain ⟨f, hf, h3⟩ := anyL_spec h2
    rw [intLe_iff] at h3
    obtain ⟨f1, f2⟩ := o.fact f hf
    have := lo_le (n - f) o.bnd
    rw [dec_sub (by rw [o.len]; exact h1) (by rw [o.len]; exact f1)] at this
    omega
theorem SPok.look {ρ : List Int} {S : SP} (o : SPok ρ S) {op : AOp} {k : IntKind} {a b r : Int} (h : S.look op k a b = some r) (hh : H) : arI op k (dec ρ a) (dec ρ b) hh = .ok (.int k (dec ρ r)) hh := by
  have key : ∀ l : List Ent, (∀ e ∈ l, ∀ h, arI e.op e.k (dec ρ e.a) (dec ρ e.b) h = .ok (.int e.k (dec ρ e.r)) h) → List.rec (motive := fun _ => Option Int) none (fun e _ ih => cond (aopEq e.op op && kEq e.k k && intEq e.a a && intEq e.b b) (some e.r) ih) l = some r → arI op k (dec ρ a) (dec ρ b) hh = .ok (.int k (dec ρ r)) hh := by
    intro l
    induction l with
    | nil => intro _ h; cases h
    | cons e l ih =>
      intro hl h
      have h : cond (aopEq e.op op && kEq e.k k && intEq e.a a && intEq e.b b) (some e.r) (List.rec (motive := fun _ => Option Int) none (fun e _ ih => cond (aopEq e.op op && kEq e.k k && intEq e.a a && intEq e.b b) (some e.r) ih) l) = some r := h
      cases hc : (aopEq e.op op && kEq e.k k && intEq e.a a && intEq e.b b) with
      | true =>
        rw [hc] at h
        obtain rfl := Option.some.inj (show some e.r = some r from h)
        simp only [Bool.and_eq_true, kEq_iff, intEq_iff] at hc
        obtain ⟨⟨⟨h1, rfl⟩, rfl⟩, rfl⟩ := hc
        obtain rfl := aopEq_spec h1
        exact hl e List.mem_cons_self hh
      | false => rw [hc] at h; exact ih (fun e he => hl e (List.mem_cons_of_mem _ he)) h
  exact key S.tbl o.tbl h
/-- least and greatest of a kind -/
def kMin : IntKind → Int | .i8 => -128 | .i16 => -32768 | .i32 => -2147483648 | .i64 => -9223372036854775808 | _ => 0
def kMax : IntKind → Int | .i8 => 127 | .i16 => 32767 | .i32 => 2147483647 | .i64 => 9223372036854775807 | .u8 => 255 | .u16 => 65535 | .u32 => 4294967295 | .u64 => 18446744073709551615
theorem wrapQ_in {k : IntKind} {n : Int} (h1 : kMin k ≤ n) (h2 : n ≤ kMax k) : wrapQ k n = n := by
  rw [wrapQ_eq]
  cases k <;> simp only [kMin, kMax] at h1 h2 <;> simp only [IntKind.wrap, IntKind.bits, IntKind.signed] <;> simp <;> omega
noncomputable def SP.inK (S : SP) (k : IntKind) (n : Int) : Bool := S.nn (n - kMin k) && S.nn (kMax k - n)
theorem SPok.inK {ρ : List Int} {S : SP} (o : SPok ρ S) {k : IntKind} {n : Int} (hn : okC S.m n = true) (h : S.inK k n = true) : wrapQ k (dec ρ n) = dec ρ n := by
  simp only [SP.inK, Bool.and_eq_true] at h
  have c1 : pln (kMin k) = true := by cases k <;> rfl
  have c2 : pln (kMax k) = true := by cases k <;> rfl
  have okP : ∀ c, pln c = true → okC ρ.length c = true := by
    intro c hc
    obtain ⟨d1, d2⟩ := pln_dig hc
    have z : ∀ m, okG m 0 = true := by
      intro m
      cases m <;> simp [okG, intEq_iff]
    simp only [okC, d1, d2, hc, z]; rfl
  have h1 := o.nn h.1
  have h2 := o.nn h.2
  rw [← o.len] at hn
  rw [dec_sub hn (okP _ c1), dec_pln c1] at h1
  rw [dec_sub (okP _ c2) hn, dec_pln c2] at h2
  exact wrapQ_in (by omega) (by omega)
end Go.Am
namespace Go.Am
section
variable (f : Int → Int)
mutual
def V.D : V → V
  | .int k n => .int k (f n)
  | .fn p a c => .fn p (V.Ds a) (V.Ds c)
  | .iface t v => .iface t (V.D v)
  | .agg cs => .agg (V.Ds cs)
  | .tup cs => .tup (V.Ds cs)
  | .bool b => .bool b
  | .str s => .str s
  | .nil => .nil
  | .ptr b o => .ptr b o
  | .nilsl => .nilsl
  | .sl b o n c => .sl b o n c
  | .nilmap => .nilmap
  | .map b => .map b
  | .nilfn => .nilfn
  | .niliface => .niliface
  | .undef => .undef
  | .junk => .junk
def V.Ds : List V → List V
  | [] => []
  | v :: vs => V.D v :: V.Ds vs
end
theorem Ds_map : ∀ l : List V, V.Ds f l = l.map (V.D f)
  | [] => by rw [V.Ds]; rfl
  | v :: l => by rw [V.Ds, Ds_map l]; rfl
end
mutual
def V.pl : V → Bool
  | .int _ n => pln n
  | .fn _ a c => V.pls a && V.pls c
  | .iface _ v => V.pl v
  | .agg cs => V.pls cs
  | .tup cs => V.pls cs
  | .bool _ => true
  | .str _ => true
  | .nil => true
  | .ptr _ _ => true
  | .nilsl => true
  | .sl _ _ _ _ => true
  | .nilmap => true
  | .map _ => true
  | .nilfn => true
  | .niliface => true
  | .undef => true
  | .junk => true
def V.pls : List V → Bool
  | [] => true
  | v :: vs => V.pl v && V.pls vs
end
mutual
theorem D_pl {f : Int → Int} (hf : ∀ n, pln n = true → f n = n) : ∀ v : V, v.pl = true → v.D f = v
  | .int k n, h => by rw [V.D, hf n (by simpa [V.pl] using h)]
  | .fn p a c, h => by
    simp only [V.pl, Bool.and_eq_true] at h
    rw [V.D, Ds_pl hf a h.1, Ds_pl hf c h.2]
  | .iface t v, h => by rw [V.D, D_pl hf v (by simpa [V.pl] using h)]
  | .agg cs, h => by rw [V.D, Ds_pl hf cs (by simpa [V.pl] using h)]
  | .tup cs, h => by rw [V.D, Ds_pl hf cs (by simpa [V.pl] using h)]
  | .bool b, _ => by rw [V.D]
  | .str s, _ => by rw [V.D]
  | .nil, _ => by rw [V.D]
  | .ptr b o, _ => by rw [V.D]
  | .nilsl, _ => by rw [V.D]
  | .sl b o n c, _ => by rw [V.D]
  | .nilmap, _ => by rw [V.D]
  | .map b, _ => by rw [V.D]
  | .nilfn, _ => by rw [V.D]
  | .niliface, _ => by rw [V.D]
  | .undef, _ => by rw [V.D]
  | .junk, _ => by rw [V.D]
theorem Ds_pl {f : Int → Int} (hf : ∀ n, pln n = true → f n = n) : ∀ l : List V, V.pls l = true → V.Ds f l = l
  | [], _ => by rw [V.Ds]
  | v :: l, h => by
    simp only [V.pls, Bool.and_eq_true] at h
    rw [V.Ds, D_pl hf v h.1, Ds_pl hf l h.2]
end
theorem map_pl {f : Int → Int} (hf : ∀ n, pln n = true → f n = n) {l : List V} (h : V.pls l = true) : l.map (V.D f) = l := by rw [← Ds_map, Ds_pl hf l h]

/-! ### tries, memory -/
def T.mapT {α β : Type} (g : α → β) : T α → T β
  | .nil => .nil
  | .node l v r => .node (l.mapT g) (v.map g) (r.mapT g)
theorem T.get_mapT {α β : Type} (g : α → β) : ∀ (p : P) (t : T α), (t.mapT g).get p = (t.get p).map g
  | .z, .nil => rfl
  | .z, .node _ _ _ => rfl
  | .l _, .nil => rfl
  | .r _, .nil => rfl
  | .l p, .node l _ _ => T.get_mapT g p l
  | .r p, .node _ _ r => T.get_mapT g p r
theorem T.set_mapT {α β : Type} (g : α → β) : ∀ (p : P) (t : T α) (a : α), (t.mapT g).set p (g a) = (t.set p a).mapT g
  | .z, .nil, _ => rfl
  | .z, .node _ _ _, _ => rfl
  | .l p, .nil, a => by
    show T.node (T.set .nil p (g a)) none .nil = T.node ((T.set .nil p a).mapT g) none .nil
    rw [← T.set_mapT g p .nil a]; rfl
  | .r p, .nil, a => by
    show T.node .nil none (T.set .nil p (g a)) = T.node .nil none ((T.set .nil p a).mapT g)
    rw [← T.set_mapT g p .nil a]; rfl
  | .l p, .node l v r, a => by
    show T.node (T.set (l.mapT g) p (g a)) (v.map g) (r.mapT g) = T.node ((T.set l p a).mapT g) (v.map g) (r.mapT g)
    rw [T.set_mapT g p l a]
  | .r p, .node l v r, a => by
    show T.node (l.mapT g) (v.map g) (T.set (r.mapT g) p (g a)) = T.node (l.mapT g) (v.map g) ((T.set r p a).mapT g)
    rw [T.set_mapT g p r a]
section
variable (f : Int → Int)
def esD (es : List (V × V × Nat)) : List (V × V × Nat) := es.map fun e => (e.1.D f, e.2.1.D f, e.2.2)
def Blk.D : Blk → Blk
  | .cells cs ro => .cells (cs.map (V.D f)) ro
  | .dead cs => .dead (cs.map (V.D f))
  | .map es c => .map (esD f es) c
  | .siter s p => .siter s p
  | .miter m a b c => .miter m a b c
def H.D (h : H) : H := ⟨h.heap.mapT (Blk.D f), h.next⟩
def frD (fr : Fr) : Fr := fr.mapT (V.D f)
def stD (st : St) : St := st.map (V.D f)
end
section
variable {f : Int → Int} {h : H} {st : St} {fr : Fr}
theorem H.get_D (b : P) : (h.D f).get b = (h.get b).map (Blk.D f) := T.get_mapT _ _ _
theorem H.put_D (b : P) (x : Blk) : (h.D f).put b (x.D f) = (h.put b x).D f := by
  show (⟨(h.heap.mapT (Blk.D f)).set b (x.D f), h.next⟩ : H) = ⟨(h.heap.set b x).mapT (Blk.D f), h.next⟩
  rw [T.set_mapT]
theorem H.alloc_D (x : Blk) : (h.D f).alloc (x.D f) = (h.alloc x).D f := by
  show (⟨(h.heap.mapT (Blk.D f)).set h.next (x.D f), h.next.succ⟩ : H) = ⟨(h.heap.set h.next x).mapT (Blk.D f), h.next.succ⟩
  rw [T.set_mapT]
theorem H.next_D : (h.D f).next = h.next := rfl
theorem H.cells_D (b : P) : (h.D f).cells b = (h.cells b).map (List.map (V.D f)) := by
  show Option.casesOn (motive := fun _ => Option (List V)) ((h.D f).get b) none Blk.row = Option.map (List.map (V.D f)) (Option.casesOn (motive := fun _ => Option (List V)) (h.get b) none Blk.row)
  rw [H.get_D]
  cases h.get b with
  | none => rfl
  | some x => cases x <;> rfl
theorem H.wcells_D (b : P) : (h.D f).wcells b = (h.wcells b).map (List.map (V.D f)) := by
  show Option.casesOn (motive := fun _ => Option (List V)) ((h.D f).get b) none Blk.wrow = Option.map (List.map (V.D f)) (Option.casesOn (motive := fun _ => Option (List V)) (h.get b) none Blk.wrow)
  rw [H.get_D]
  cases h.get b with
  | none => rfl
  | some x => cases x with
    | cells cs ro => cases ro <;> rfl
    | _ => rfl
theorem takeN_map {α β : Type} (g : α → β) (n : Nat) (l : List α) : takeN n (l.map g) = (takeN n l).map (List.map g) := by
  rw [takeN_eq, takeN_eq, List.length_map]
  split
  · rw [Option.map_some, List.map_take]
  · rfl
theorem dropN_map {α β : Type} (g : α → β) (n : Nat) (l : List α) : dropN n (l.map g) = (dropN n l).map g := by rw [dropN_eq, dropN_eq, List.map_drop]
theorem nth_map {α β : Type} (g : α → β) (n : Nat) (l : List α) : nth (l.map g) n = (nth l n).map g := by rw [nth_eq, nth_eq, List.getElem?_map]
theorem len_map {α β : Type} (g : α → β) (l : List α) : Am.len (l.map g) = Am.len l := by rw [len_eq, len_eq, List.length_map]
theorem app_map {α β : Type} (g : α → β) (a b : List α) : app (a.map g) (b.map g) = (app a b).map g := by rw [app_eq, app_eq, List.map_append]
theorem putN_map {α β : Type} (g : α → β) : ∀ vs l : List α, putN (vs.map g) (l.map g) = (putN vs l).map (List.map g)
  | [], _ => rfl
  | _ :: _, [] => rfl
  | v :: vs, a :: l => by
    show Option.casesOn (motive := fun _ => Option (List β)) (putN (vs.map g) (l.map g)) none (fun r => some (g v :: r)) = Option.map (List.map g) (Option.casesOn (motive := fun _ => Option (List α)) (putN vs l) none (fun r => some (v :: r)))
    rw [putN_map g vs l]
    cases putN vs l <;> rfl
theorem putAt_map {α β : Type} (g : α → β) (vs : List α) : ∀ (o : Nat) (l : List α), putAt o (vs.map g) (l.map g) = (putAt o vs l).map (List.map g)
  | 0, l => putN_map g vs l
  | _ + 1, [] => rfl
  | o + 1, a :: l => by
    show Option.casesOn (motive := fun _ => Option (List β)) (putAt o (vs.map g) (l.map g)) none (fun r => some (g a :: r)) = Option.map (List.map g) (Option.casesOn (motive := fun _ => Option (List α)) (putAt o vs l) none (fun r => some (a :: r)))
    rw [putAt_map g vs o l]
    cases putAt o vs l <;> rfl
theorem rep_map {α β : Type} (g : α → β) (z : List α) : ∀ n, (rep n z).map g = rep n (z.map g)
  | 0 => rfl
  | n + 1 => by
    show (app z (rep n z)).map g = app (z.map g) (rep n (z.map g))
    rw [← app_map, rep_map g z n]
theorem H.read_D (b : P) (o n : Nat) : (h.D f).read b o n = (h.read b o n).map (List.map (V.D f)) := by
  show Option.casesOn (motive := fun _ => Option (List V)) ((h.D f).cells b) none (fun cs => takeN n (dropN o cs)) = Option.map (List.map (V.D f)) (Option.casesOn (motive := fun _ => Option (List V)) (h.cells b) none (fun cs => takeN n (dropN o cs)))
  rw [H.cells_D]
  cases h.cells b with
  | none => rfl
  | some cs => show takeN n (dropN o (cs.map (V.D f))) = _; rw [dropN_map, takeN_map]
theorem H.write_D (b : P) (o : Nat) (vs : List V) : (h.D f).write b o (vs.map (V.D f)) = (h.write b o vs).map (H.D f) := by
  show Option.casesOn (motive := fun _ => Option H) ((h.D f).wcells b) none (fun cs => Option.casesOn (motive := fun _ => Option H) (putAt o (vs.map (V.D f)) cs) none (fun cs => some ((h.D f).put b (.cells cs false)))) =
    Option.map (H.D f) (Option.casesOn (motive := fun _ => Option H) (h.wcells b) none (fun cs => Option.casesOn (motive := fun _ => Option H) (putAt o vs cs) none (fun cs => some (h.put b (.cells cs false)))))
  rw [H.wcells_D]
  cases h.wcells b with
  | none => rfl
  | some cs =>
    show Option.casesOn (motive := fun _ => Option H) (putAt o (vs.map (V.D f)) (cs.map (V.D f))) none (fun cs => some ((h.D f).put b (.cells cs false))) = _
    rw [putAt_map]
    cases h1 : putAt o vs cs with
    | none => simp [h1]
    | some r =>
      simp only [h1, Option.map_some]
      rw [← H.put_D]; rfl
theorem flat1_D (v : V) : (v.D f).flat1 = v.flat1.map (List.map (V.D f)) := by
  cases v <;> simp [V.D, V.flat1, Ds_map]
def X.pl : X → Bool
  | .con v => v.pl
  | _ => true
theorem ev_D (hf : ∀ n, pln n = true → f n = n) {x : X} (hx : x.pl = true) : x.ev (stD f st) (frD f fr) = (x.ev st fr).D f := by
  cases x with
  | loc i =>
    show nthI .junk i (st.map (V.D f)) = (nthI .junk i st).D f
    rw [nthI_eq, nthI_eq, List.getD_eq_getElem?_getD, List.getD_eq_getElem?_getD, List.getElem?_map]
    cases st[i.num]? with
    | none => simp [V.D]
    | some v => rfl
  | slot p =>
    show Option.casesOn (motive := fun _ => V) ((frD f fr).get p) .junk (fun v => v) = V.D f (Option.casesOn (motive := fun _ => V) (fr.get p) .junk (fun v => v))
    unfold frD
    rw [T.get_mapT]
    cases fr.get p with
    | none => simp [V.D]
    | some v => rfl
  | con v => exact (D_pl hf v hx).symm

/-! ### outcomes -/
def R.Le (f : Int → Int) : R → R → Prop
  | .no, _ => True
  | .ok v h, s => s = .ok (v.D f) (h.D f)
  | .ask n k, s => ∃ k', s = .ask n k' ∧ ∀ i, R.Le f (k i) (k' i)
theorem le_ok {v v' : V} {h h' : H} (e1 : v' = v.D f) (e2 : h' = h.D f) : R.Le f (.ok v h) (.ok v' h') := by rw [e1, e2]; rfl
theorem le_onSome {α β : Type} {o : Option α} {o' : Option β} {g : α → R} {g' : β → R} (φ : α → β) (ho : ∀ a, o = some a → o' = some (φ a)) (k : ∀ a, o = some a → R.Le f (g a) (g' (φ a))) : R.Le f (onSome o g) (onSome o' g') := by
  cases o with
  | none => trivial
  | some a => rw [ho a rfl]; exact k a rfl
theorem le_cond {c c' : Bool} {r r' : R} (hc : c = true → c' = true) (k : c = true → R.Le f r r') : R.Le f (cond c r .no) (cond c' r' .no) := by
  cases c with
  | false => trivial
  | true => rw [hc rfl]; exact k rfl
theorem le_cond2 {c c' : Bool} {r r' s s' : R} (hc : c' = c) (k : c = true → R.Le f r r') (l : c = false → R.Le f s s') : R.Le f (cond c r s) (cond c' r' s') := by
  subst hc
  cases c' with
  | false => exact l rfl
  | true => exact k rfl
theorem le_onInt {v : V} {g g' : IntKind → Int → R} (k : ∀ kk n, v = .int kk n → R.Le f (g kk n) (g' kk (f n))) : R.Le f (onInt v g) (onInt (v.D f) g') := by
  cases v <;> first | trivial | (rw [V.D]; exact k _ _ rfl)
theorem le_onBool {v : V} {g g' : Bool → R} (k : ∀ b, v = .bool b → R.Le f (g b) (g' b)) : R.Le f (onBool v g) (onBool (v.D f) g') := by
  cases v <;> first | trivial | (rw [V.D]; exact k _ rfl)
theorem le_onStr {v : V} {g g' : List Nat → R} (k : ∀ b, v = .str b → R.Le f (g b) (g' b)) : R.Le f (onStr v g) (onStr (v.D f) g') := by
  cases v <;> first | trivial | (rw [V.D]; exact k _ rfl)
theorem le_onPtr {v : V} {g g' : P → Nat → R} (k : ∀ b o, R.Le f (g b o) (g' b o)) : R.Le f (onPtr v g) (onPtr (v.D f) g') := by
  cases v <;> first | trivial | (rw [V.D]; exact k _ _)
theorem le_onAgg {v : V} {g g' : List V → R} (k : ∀ cs, R.Le f (g cs) (g' (cs.map (V.D f)))) : R.Le f (onAgg v g) (onAgg (v.D f) g') := by
  cases v <;> first | trivial | (rw [V.D, Ds_map]; exact k _)
theorem le_onTup {v : V} {g g' : List V → R} (k : ∀ cs, R.Le f (g cs) (g' (cs.map (V.D f)))) : R.Le f (onTup v g) (onTup (v.D f) g') := by
  cases v <;> first | trivial | (rw [V.D, Ds_map]; exact k _)
theorem le_onMap {v : V} {g g' : P → R} (k : ∀ b, R.Le f (g b) (g' b)) : R.Le f (onMap v g) (onMap (v.D f) g') := by
  cases v <;> first | trivial | (rw [V.D]; exact k _)
theorem le_onSl {v : V} {n n' : R} {g g' : P → Nat → Nat → Cp → R} (l : R.Le f n n') (k : ∀ b o m c, R.Le f (g b o m c) (g' b o m c)) : R.Le f (onSl v n g) (onSl (v.D f) n' g') := by
  cases v <;> first | trivial | (rw [V.D]; exact k _ _ _ _) | (rw [V.D]; exact l)
theorem le_onMapN {v : V} {n n' : R} {g g' : P → R} (l : R.Le f n n') (k : ∀ b, R.Le f (g b) (g' b)) : R.Le f (onMapN v n g) (onMapN (v.D f) n' g') := by
  cases v <;> first | trivial | (rw [V.D]; exact k _) | (rw [V.D]; exact l)
theorem le_onNck {v : V} {g g' : P → Nat → R} {q q' : P → List V → List V → R} (k : ∀ b o, R.Le f (g b o) (g' b o)) (l : ∀ p a c, R.Le f (q p a c) (q' p (a.map (V.D f)) (c.map (V.D f)))) : R.Le f (onNck v g q) (onNck (v.D f) g' q') := by
  cases v <;> first | trivial | (rw [V.D]; exact k _ _) | (rw [V.D, Ds_map, Ds_map]; exact l _ _ _)
theorem le_onIf {v : V} {n n' : R} {g g' : TypeId → V → R} (l : R.Le f n n') (k : ∀ t u, R.Le f (g t u) (g' t (u.D f))) : R.Le f (onIf v n g) (onIf (v.D f) n' g') := by
  cases v <;> first | trivial | (rw [V.D]; exact k _ _) | (rw [V.D]; exact l)
theorem le_onNew {v : V} {s s' : List Nat → R} {n n' : R} {g g' : P → Nat → Nat → Cp → R} (j : ∀ l, R.Le f (s l) (s' l)) (l : R.Le f n n') (k : ∀ b o m c, R.Le f (g b o m c) (g' b o m c)) : R.Le f (onNew v s n g) (onNew (v.D f) s' n' g') := by
  cases v <;> first | trivial | (rw [V.D]; exact j _) | (rw [V.D]; exact k _ _ _ _) | (rw [V.D]; exact l)
theorem le_onFn {v : V} {q q' : P → List V → List V → R} (l : ∀ p a c, R.Le f (q p a c) (q' p (a.map (V.D f)) (c.map (V.D f)))) : R.Le f (onFn v q) (onFn (v.D f) q') := by
  cases v <;> first | trivial | (rw [V.D, Ds_map, Ds_map]; exact l _ _ _)
theorem le_onMapB {o : Option Blk} {g g' : List (V × V × Nat) → Nat → R} (k : ∀ es c, R.Le f (g es c) (g' (esD f es) c)) : R.Le f (onMapB o g) (onMapB (o.map (Blk.D f)) g') := by
  cases o with
  | none => trivial
  | some b => cases b <;> first | trivial | exact k _ _
theorem le_onRow {o : Option Blk} {g g' : List V → Bool → R} (k : ∀ cs ro, R.Le f (g cs ro) (g' (cs.map (V.D f)) ro)) : R.Le f (onRow o g) (onRow (o.map (Blk.D f)) g') := by
  cases o with
  | none => trivial
  | some b => cases b <;> first | trivial | exact k _ _
/-- a result that is what it says -/
noncomputable def ckR (r : R) : R := R.casesOn (motive := fun _ => R) r .no (fun v h => cond v.pl (.ok v h) .no) (fun _ _ => .no)
theorem le_ck {r s : R} (k : ∀ v h, r = .ok v h → v.pl = true → s = .ok (v.D f) (h.D f)) : R.Le f (ckR r) s := by
  cases r with
  | no => trivial
  | ask n k => trivial
  | ok v h =>
    show R.Le f (_root_.cond v.pl (.ok v h) .no) s
    cases hv : v.pl with
    | false => trivial
    | true => exact k v h rfl hv
end
end Go.Am
namespace Go.Am

/-! ### numbers -/
theorem okG_zero (m : Nat) : okG m 0 = true := by cases m <;> simp [okG, intEq_iff]
theorem okC_pln {m : Nat} {c : Int} (hc : pln c = true) : okC m c = true := by
  obtain ⟨d1, d2⟩ := pln_dig hc
  simp only [okC, d1, d2, hc, okG_zero]; rfl
noncomputable def SP.res (S : SP) (k : IntKind) (r a b : Int) (h : H) : R := cond (okC S.m a && okC S.m b && okC S.m r && S.inK k r) (.ok (.int k r) h) .no
noncomputable def arS (S : SP) (op : AOp) (k : IntKind) (a b : Int) (h : H) : R := cond (pln a && pln b) (ckR (arI op k a b h))
  (Option.casesOn (motive := fun _ => R) (S.look op k a b) (AOp.casesOn (motive := fun _ => R) op (S.res k (Int.add a b) a b h) (S.res k (Int.sub a b) a b h) .no .no .no) (fun r => .ok (.int k r) h))
noncomputable def leS (S : SP) (a b : Int) : Option Bool := cond (pln a && pln b) (some (intLe a b))
  (cond (okC S.m a && okC S.m b) (cond (S.nn (Int.sub b a)) (some true) (cond (okC S.m (Int.add b 1) && S.nn (Int.sub a (Int.add b 1))) (some false) none)) none)
noncomputable def eqS (S : SP) (a b : Int) : Option Bool := cond (pln a && pln b) (some (intEq a b))
  (cond (okC S.m a && okC S.m b) (cond (intEq a b) (some true) (cond (okC S.m (Int.add b 1) && S.nn (Int.sub a (Int.add b 1))) (some false) (cond (okC S.m (Int.add a 1) && S.nn (Int.sub b (Int.add a 1))) (some false) none))) none)
noncomputable def notO (o : Option Bool) : Option Bool := Option.casesOn (motive := fun _ => Option Bool) o none (fun b => some (!b))
noncomputable def cmpIS (S : SP) (op : COp) (a b : Int) : Option Bool := COp.casesOn (motive := fun _ => Option Bool) op (eqS S a b) (notO (eqS S a b)) (notO (leS S b a)) (leS S a b) (notO (leS S a b)) (leS S b a)
section
variable {ρ : List Int} {S : SP} (o : SPok ρ S)
include o
theorem arS_le {op : AOp} {k : IntKind} {a b : Int} {h : H} : R.Le (dec ρ) (arS S op k a b h) (arI op k (dec ρ a) (dec ρ b) (h.D (dec ρ))) := by
  unfold arS
  cases hp : (pln a && pln b) with
  | true =>
    rw [Bool.and_eq_true] at hp
    rw [dec_pln hp.1, dec_pln hp.2]
    refine le_ck fun v h1 e hv => ?_
    have pu : arI op k a b h = .no ∨ ∃ n, ∀ h, arI op k a b h = .ok (.int k n) h := by
      cases op
      · exact .inr ⟨_, fun _ => rfl⟩
      · exact .inr ⟨_, fun _ => rfl⟩
      · exact .inr ⟨_, fun _ => rfl⟩
      · have e9 : ∀ h, arI .quo k a b h = cond (intEq b 0) R.no (R.ok (.int k (wrapQ k (Int.tdiv a b))) h) := fun _ => rfl
        cases hb : intEq b 0
        · exact .inr ⟨_, fun h => by rw [e9, hb, cond_false]⟩
        · exact .inl (by rw [e9, hb, cond_true])
      · have e9 : ∀ h, arI .rem k a b h = cond (intEq b 0) R.no (R.ok (.int k (Int.tmod a b)) h) := fun _ => rfl
        cases hb : intEq b 0
        · exact .inr ⟨_, fun h => by rw [e9, hb, cond_false]⟩
        · exact .inl (by rw [e9, hb, cond_true])
    rcases pu with pu | ⟨n, pu⟩
    · rw [pu] at e; cases e
    · rw [pu] at e
      injection e with e1 e2
      subst e1 e2
      rw [pu, V.D, dec_pln (by simpa [V.pl] using hv)]
  | false =>
    rw [cond_false]
    cases hl : S.look op k a b with
    | some r => exact o.look hl _
    | none =>
      cases op
      case add =>
        show R.Le _ (cond (okC S.m a && okC S.m b && okC S.m (Int.add a b) && S.inK k (Int.add a b)) _ .no) _
        cases hc : (okC S.m a && okC S.m b && okC S.m (Int.add a b) && S.inK k (Int.add a b)) with
        | false => trivial
        | true =>
          simp only [Bool.and_eq_true] at hc
          obtain ⟨⟨⟨h1, h2⟩, h3⟩, h4⟩ := hc
          show R.ok (.int k (wrapQ k (dec ρ a + dec ρ b))) _ = .ok ((V.int k (a + b)).D (dec ρ)) _
          rw [V.D, ← dec_add (by rw [o.len]; exact h1) (by rw [o.len]; exact h2)]
          have := o.inK h3 h4
          rw [show Int.add a b = a + b from rfl] at this
          rw [this]
      case sub =>
        show R.Le _ (cond (okC S.m a && okC S.m b && okC S.m (Int.sub a b) && S.inK k (Int.sub a b)) _ .no) _
        cases hc : (okC S.m a && okC S.m b && okC S.m (Int.sub a b) && S.inK k (Int.sub a b)) with
        | false => trivial
        | true =>
          simp only [Bool.and_eq_true] at hc
          obtain ⟨⟨⟨h1, h2⟩, h3⟩, h4⟩ := hc
          show R.ok (.int k (wrapQ k (dec ρ a + -dec ρ b))) _ = .ok ((V.int k (a - b)).D (dec ρ)) _
          rw [V.D, ← Int.sub_eq_add_neg, ← dec_sub (by rw [o.len]; exact h1) (by rw [o.len]; exact h2)]
          have := o.inK h3 h4
          rw [show Int.sub a b = a - b from rfl] at this
          rw [this]
      all_goals trivial
theorem nn_sub {a b : Int} (ha : okC S.m a = true) (hb : okC S.m b = true) (h : S.nn (Int.sub a b) = true) : dec ρ b ≤ dec ρ a := by
  have := o.nn h
  rw [show Int.sub a b = a - b from rfl, dec_sub (by rw [o.len]; exact ha) (by rw [o.len]; exact hb)] at this
  omega
theorem dec_succ {b : Int} (hb : okC S.m b = true) : dec ρ (Int.add b 1) = dec ρ b + 1 := by
  rw [show Int.add b 1 = b + 1 from rfl, dec_add (by rw [o.len]; exact hb) (okC_pln rfl), dec_pln (n := 1) rfl]
theorem leS_ok {a b : Int} {t : Bool} (h : leS S a b = some t) : intLe (dec ρ a) (dec ρ b) = t := by
  unfold leS at h
  cases hp : (pln a && pln b) with
  | true =>
    rw [hp] at h
    rw [Bool.and_eq_true] at hp
    rw [dec_pln hp.1, dec_pln hp.2]
    exact Option.some.inj h
  | false =>
    rw [hp, cond_false] at h
    cases hc : (okC S.m a && okC S.m b) with
    | false => rw [hc] at h; cases h
    | true =>
      rw [hc, cond_true] at h
      rw [Bool.and_eq_true] at hc
      cases h1 : S.nn (Int.sub b a) with
      | true =>
        rw [h1] at h
        obtain rfl := Option.some.inj (show some true = some t from h)
        rw [intLe_iff]; exact nn_sub o hc.2 hc.1 h1
      | false =>
        rw [h1, cond_false] at h
        cases h2 : (okC S.m (Int.add b 1) && S.nn (Int.sub a (Int.add b 1))) with
        | false => rw [h2] at h; cases h
        | true =>
          rw [h2] at h
          obtain rfl := Option.some.inj (show some false = some t from h)
          rw [Bool.and_eq_true] at h2
          have := nn_sub o hc.1 h2.1 h2.2
          rw [dec_succ o hc.2] at this
          rw [intLe_dec]; exact decide_eq_false (by omega)
theorem eqS_ok {a b : Int} {t : Bool} (h : eqS S a b = some t) : intEq (dec ρ a) (dec ρ b) = t := by
  unfold eqS at h
  cases hp : (pln a && pln b) with
  | true =>
    rw [hp] at h
    rw [Bool.and_eq_true] at hp
    rw [dec_pln hp.1, dec_pln hp.2]
    exact Option.some.inj h
  | false =>
    rw [hp, cond_false] at h
    cases hc : (okC S.m a && okC S.m b) with
    | false => rw [hc] at h; cases h
    | true =>
      rw [hc, cond_true] at h
      rw [Bool.and_eq_true] at hc
      have ne : ∀ {x y : Int}, x ≠ y → intEq x y = false := fun {x y} hne => by
        cases hh : intEq x y with
        | false => rfl
        | true => exact absurd ((intEq_iff _ _).1 hh) hne
      cases h1 : intEq a b with
      | true =>
        rw [h1] at h
        obtain rfl := Option.some.inj (show some true = some t from h)
        rw [intEq_iff] at h1 ⊢; rw [h1]
      | false =>
        rw [h1, cond_false] at h
        cases h2 : (okC S.m (Int.add b 1) && S.nn (Int.sub a (Int.add b 1))) with
        | true =>
          rw [h2] at h
          obtain rfl := Option.some.inj (show some false = some t from h)
          rw [Bool.and_eq_true] at h2
          have := nn_sub o hc.1 h2.1 h2.2
          rw [dec_succ o hc.2] at this
          exact ne (by omega)
        | false =>
          rw [h2, cond_false] at h
          cases h3 : (okC S.m (Int.add a 1) && S.nn (Int.sub b (Int.add a 1))) with
          | false => rw [h3] at h; cases h
          | true =>
            rw [h3] at h
            obtain rfl := Option.some.inj (show some false = some t from h)
            rw [Bool.and_eq_true] at h3
            have := nn_sub o hc.2 h3.1 h3.2
            rw [dec_succ o hc.1] at this
            exact ne (by omega)
omit o in
theorem notO_some {x : Option Bool} {t : Bool} (h : notO x = some t) : ∃ s, x = some s ∧ t = !s := by
  cases x with
  | none => cases h
  | some s => exact ⟨s, rfl, (Option.some.inj (show some (!s) = some t from h)).symm⟩
theorem cmpIS_ok {op : COp} {a b : Int} {t : Bool} (h : cmpIS S op a b = some t) : cmpI op (dec ρ a) (dec ρ b) = t := by
  cases op
  · exact eqS_ok o h
  · obtain ⟨s, h1, rfl⟩ := notO_some (show notO (eqS S a b) = some t from h)
    show (!(intEq _ _)) = _; rw [eqS_ok o h1]
  · obtain ⟨s, h1, rfl⟩ := notO_some (show notO (leS S b a) = some t from h)
    show (!(intLe _ _)) = _; rw [leS_ok o h1]
  · exact leS_ok o h
  · obtain ⟨s, h1, rfl⟩ := notO_some (show notO (leS S a b) = some t from h)
    show (!(intLe _ _)) = _; rw [leS_ok o h1]
  · exact leS_ok o h
end
/-! ### values -/
noncomputable def skEqS (S : SP) (s : SK) (x y : V) : Option Bool := match s, x, y with
  | .int, .int k a, .int k' b => cond (kEq k k') (eqS S a b) none
  | .bool, .bool a, .bool b => some (Bool.casesOn (motive := fun _ => Bool) a (!b) b)
  | .str, .str a, .str b => some (beqL Nat.beq a b)
  | _, _, _ => none
noncomputable def flatEqS (S : SP) (ks : List SK) : List V → List V → Option Bool :=
  List.rec (motive := fun _ => List V → List V → Option Bool)
    (fun xs ys => match xs, ys with | [], [] => some true | _, _ => none)
    (fun s _ ih xs ys => match xs, ys with
      | x :: xs, y :: ys => Option.casesOn (motive := fun _ => Option Bool) (skEqS S s x y) none (fun b => cond b (ih xs ys) (some false))
      | _, _ => none) ks
noncomputable def eqDynS (S : SP) (isInt : Bool) (v v' : V) : Option Bool := match isInt, v, v' with
  | true, .int k a, .int k' b => cond (kEq k k') (eqS S a b) none
  | false, .ptr b o, .ptr b' o' => eqPtr b o b' o'
  | _, _, _ => none
noncomputable def eqFS (S : SP) (k : EqK) (x y : V) : Option Bool :=
  match k, x, y with
  | .bool, .bool a, .bool b => some (Bool.casesOn (motive := fun _ => Bool) a (!b) b)
  | .ptr, .nil, .nil => some true
  | .ptr, .nil, .ptr _ _ => some false
  | .ptr, .ptr _ _, .nil => some false
  | .ptr, .ptr b o, .ptr b' o' => eqPtr b o b' o'
  | .iface cn _, .niliface, .niliface => cond cn (some true) none
  | .iface _ _, .niliface, .iface _ _ => some false
  | .iface _ _, .iface _ _, .niliface => some false
  | .iface _ tys, .iface t v, .iface t' v' => cond (Nat.beq t t') (Option.casesOn (motive := fun _ => Option Bool) (lookT t tys) none (fun i => eqDynS S i v v')) (some false)
  | .flat ks, .agg xs, .agg ys => flatEqS S ks xs ys
  | .slice, .nilsl, .nilsl => some true
  | .slice, .nilsl, .sl .. => some false
  | .slice, .sl .., .nilsl => some false
  | .map, .nilmap, .nilmap => some true
  | .map, .nilmap, .map _ => some false
  | .map, .map _, .nilmap => some false
  | .func, .nilfn, .nilfn => some true
  | .func, .nilfn, .fn .. => some false
  | .func, .fn .., .nilfn => some false
  | _, _, _ => none
noncomputable def findKS (S : SP) (s : SK) (k : V) (es : List (V × V × Nat)) : Option (Option (Nat × V × Nat)) :=
  List.rec (motive := fun _ => Nat → Option (Option (Nat × V × Nat))) (fun _ => some none)
    (fun e _ ih i => Option.casesOn (motive := fun _ => Option (Option (Nat × V × Nat))) (skEqS S s k e.1) none (fun b => cond b (some (some (i, e.2))) (ih (Nat.succ i)))) es 0
noncomputable def mx2S (S : SP) : V → V → Option V
  | .int k x, .int k' y => cond (kEq k k') (Option.casesOn (motive := fun _ => Option V) (leS S y x) (Option.casesOn (motive := fun _ => Option V) (look2 S.mxt x y) none (fun r => some (.int k r))) (fun t => some (.int k (cond t x y)))) none
  | .str x, .str y => some (.str (cond (bytesLt x y) y x))
  | _, _ => none
noncomputable def mn2S (S : SP) : V → V → Option V
  | .int k x, .int k' y => cond (kEq k k') (Option.casesOn (motive := fun _ => Option V) (leS S x y) (Option.casesOn (motive := fun _ => Option V) (look2 S.mnt x y) none (fun r => some (.int k r))) (fun t => some (.int k (cond t x y)))) none
  | .str x, .str y => some (.str (cond (bytesLt y x) y x))
  | _, _ => none
section
variable {ρ : List Int} {S : SP} (o : SPok ρ S)
include o
theorem skEqS_ok {s : SK} {x y : V} {t : Bool} (h : skEqS S s x y = some t) : skEq s (x.D (dec ρ)) (y.D (dec ρ)) = some t := by
  unfold skEqS at h
  split at h
  · rename_i k a k' b
    rw [V.D, V.D]
    show cond (kEq k k') (some (intEq (dec ρ a) (dec ρ b))) none = _
    cases hk : kEq k k' with
    | false => rw [hk] at h; cases h
    | true => rw [hk] at h; rw [cond_true, eqS_ok o h]
  · rw [V.D, V.D]; exact h
  · rw [V.D, V.D]; exact h
  · cases h
theorem flatEqS_ok : ∀ {ks : List SK} {xs ys : List V} {t : Bool}, flatEqS S ks xs ys = some t → flatEq ks (xs.map (V.D (dec ρ))) (ys.map (V.D (dec ρ))) = some t
  | [], [], [], t, h => h
  | [], _ :: _, _, t, h => by cases h
  | [], [], _ :: _, t, h => by cases h
  | _ :: _, [], _, t, h => by cases h
  | _ :: _, _ :: _, [], t, h => by cases h
  | s :: ks, x :: xs, y :: ys, t, h => by
    have h : Option.casesOn (motive := fun _ => Option Bool) (skEqS S s x y) none (fun b => cond b (flatEqS S ks xs ys) (some false)) = some t := h
    show Option.casesOn (motive := fun _ => Option Bool) (skEq s (x.D (dec ρ)) (y.D (dec ρ))) none (fun b => cond b (flatEq ks (xs.map (V.D (dec ρ))) (ys.map (V.D (dec ρ)))) (some false)) = some t
    cases hq : skEqS S s x y with
    | none => rw [hq] at h; cases h
    | some q =>
      rw [hq] at h
      rw [skEqS_ok o hq]
      cases q with
      | false => exact h
      | true => exact flatEqS_ok h
theorem eqDynS_ok {i : Bool} {x y : V} {t : Bool} (h : eqDynS S i x y = some t) : eqDyn i (x.D (dec ρ)) (y.D (dec ρ)) = some t := by
  unfold eqDynS at h
  split at h
  · rename_i k a k' b
    rw [V.D, V.D]
    show cond (kEq k k') (some (intEq (dec ρ a) (dec ρ b))) none = _
    cases hk : kEq k k' with
    | false => rw [hk] at h; cases h
    | true => rw [hk] at h; rw [cond_true, eqS_ok o h]
  · rw [V.D, V.D]; exact h
  · cases h
theorem eqFS_ok {k : EqK} {x y : V} {t : Bool} (h : eqFS S k x y = some t) : eqF k (x.D (dec ρ)) (y.D (dec ρ)) = some t := by
  unfold eqFS at h
  split at h <;> first
    | (cases h; done)
    | (simp only [V.D]; exact h)
    | (rw [V.D, V.D, Ds_map, Ds_map]; exact flatEqS_ok o h)
    | (rename_i tys t1 v1 t2 v2
       rw [V.D, V.D]
       show cond (Nat.beq t1 t2) (Option.casesOn (motive := fun _ => Option Bool) (lookT t1 tys) none (fun i => eqDyn i (v1.D (dec ρ)) (v2.D (dec ρ)))) (some false) = some t
       cases hb : Nat.beq t1 t2 with
       | false => rw [hb] at h; exact h
       | true =>
         rw [hb, cond_true] at h
         rw [cond_true]
         cases hl : lookT t1 tys with
         | none => rw [hl] at h; cases h
         | some i => rw [hl] at h; exact eqDynS_ok o h)
theorem findKS_ok {s : SK} {k : V} {es : List (V × V × Nat)} {q : Option (Nat × V × Nat)} (h : findKS S s k es = some q) : findK (.sc s) (k.D (dec ρ)) (esD (dec ρ) es) = some (q.map fun e => (e.1, e.2.1.D (dec ρ), e.2.2)) := by
  have key : ∀ (es : List (V × V × Nat)) (i : Nat), List.rec (motive := fun _ => Nat → Option (Option (Nat × V × Nat))) (fun _ => some none)
      (fun e _ ih i => Option.casesOn (motive := fun _ => Option (Option (Nat × V × Nat))) (skEqS S s k e.1) none (fun b => cond b (some (some (i, e.2))) (ih (Nat.succ i)))) es i = some q →
      List.rec (motive := fun _ => Nat → Option (Option (Nat × V × Nat))) (fun _ => some none)
      (fun e _ ih i => Option.casesOn (motive := fun _ => Option (Option (Nat × V × Nat))) (keyEq (.sc s) (k.D (dec ρ)) e.1) none (fun b => cond b (some (some (i, e.2))) (ih (Nat.succ i)))) (esD (dec ρ) es) i = some (q.map fun e => (e.1, e.2.1.D (dec ρ), e.2.2)) := by
    intro es
    induction es with
    | nil =>
      intro i h
      obtain rfl := Option.some.inj (show some none = some q from h)
      rfl
    | cons e es ih =>
      intro i h
      have h1 := h
      show Option.casesOn (motive := fun _ => Option (Option (Nat × V × Nat))) (skEq s (k.D (dec ρ)) (e.1.D (dec ρ))) none (fun b => cond b (some (some (i, (e.2.1.D (dec ρ), e.2.2)))) _) = _
      cases hq : skEqS S s k e.1 with
      | none =>
        have h2 : Option.casesOn (motive := fun _ => Option (Option (Nat × V × Nat))) (skEqS S s k e.1) none _ = some q := h1
        rw [hq] at h2; cases h2
      | some b =>
        have h2 : Option.casesOn (motive := fun _ => Option (Option (Nat × V × Nat))) (skEqS S s k e.1) none (fun b => cond b (some (some (i, e.2))) _) = some q := h1
        rw [hq] at h2
        rw [skEqS_ok o hq]
        cases b with
        | true =>
          obtain rfl := Option.some.inj (show some (some (i, e.2)) = some q from h2)
          rfl
        | false => exact ih (i + 1) h2
  exact key es 0 h
theorem mx2S_ok {x y r : V} (h : mx2S S x y = some r) : mx2 (x.D (dec ρ)) (y.D (dec ρ)) = some (r.D (dec ρ)) := by
  unfold mx2S at h
  split at h
  · rename_i k a k' b
    rw [V.D, V.D]
    show cond (kEq k k') (some (V.int k (cond (intLe (dec ρ b) (dec ρ a)) (dec ρ a) (dec ρ b)))) none = _
    cases hk : kEq k k' with
    | false => rw [hk] at h; cases h
    | true =>
      rw [hk, cond_true] at h
      rw [cond_true]
      cases hl : leS S b a with
      | none =>
        rw [hl] at h
        have h : Option.casesOn (motive := fun _ => Option V) (look2 S.mxt a b) none (fun r => some (V.int k r)) = some r := h
        cases hm : look2 S.mxt a b with
        | none => rw [hm] at h; cases h
        | some q =>
          rw [hm] at h
          obtain rfl := Option.some.inj (show some (V.int k q) = some r from h)
          obtain ⟨e, he, rfl, rfl, rfl⟩ := look2_mem hm
          rw [V.D, ← o.mxt e he, intLe_dec]
          congr 2
          by_cases hh : dec ρ e.b ≤ dec ρ e.a
          · rw [decide_eq_true hh]; show dec ρ e.a = max _ _; omega
          · rw [decide_eq_false hh]; show dec ρ e.b = max _ _; omega
      | some t =>
        rw [hl] at h
        obtain rfl := Option.some.inj (show some (V.int k (cond t a b)) = some r from h)
        rw [leS_ok o hl, V.D]
        cases t <;> rfl
  · rw [V.D, V.D]
    obtain rfl := Option.some.inj h
    rw [V.D]; rfl
  · cases h
theorem mn2S_ok {x y r : V} (h : mn2S S x y = some r) : mn2 (x.D (dec ρ)) (y.D (dec ρ)) = some (r.D (dec ρ)) := by
  unfold mn2S at h
  split at h
  · rename_i k a k' b
    rw [V.D, V.D]
    show cond (kEq k k') (some (V.int k (cond (intLe (dec ρ a) (dec ρ b)) (dec ρ a) (dec ρ b)))) none = _
    cases hk : kEq k k' with
    | false => rw [hk] at h; cases h
    | true =>
      rw [hk, cond_true] at h
      rw [cond_true]
      cases hl : leS S a b with
      | none =>
        rw [hl] at h
        have h : Option.casesOn (motive := fun _ => Option V) (look2 S.mnt a b) none (fun r => some (V.int k r)) = some r := h
        cases hm : look2 S.mnt a b with
        | none => rw [hm] at h; cases h
        | some q =>
          rw [hm] at h
          obtain rfl := Option.some.inj (show some (V.int k q) = some r from h)
          obtain ⟨e, he, rfl, rfl, rfl⟩ := look2_mem hm
          rw [V.D, ← o.mnt e he, intLe_dec]
          congr 2
          by_cases hh : dec ρ e.a ≤ dec ρ e.b
          · rw [decide_eq_true hh]; show dec ρ e.a = min _ _; omega
          · rw [decide_eq_false hh]; show dec ρ e.b = min _ _; omega
      | some t =>
        rw [hl] at h
        obtain rfl := Option.some.inj (show some (V.int k (cond t a b)) = some r from h)
        rw [leS_ok o hl, V.D]
        cases t <;> rfl
  · rw [V.D, V.D]
    obtain rfl := Option.some.inj h
    rw [V.D]; rfl
  · cases h
end
end Go.Am
namespace Go.Am

noncomputable def g1 (x : X) (st : St) (fr : Fr) (r : R) : R := cond (x.ev st fr).pl r .no
noncomputable def g0 (x : Option X) (st : St) (fr : Fr) (r : R) : R := Option.casesOn (motive := fun _ => R) x r (fun x => g1 x st fr r)
section
variable (S : SP)
noncomputable def sAr (op : AOp) (k : IntKind) (x y : X) (st : St) (fr : Fr) (h : H) : R := onInt (x.ev st fr) (fun k1 a => onInt (y.ev st fr) (fun k2 b => cond (kEq k1 k) (cond (kEq k2 k) (arS S op k a b h) .no) .no))
noncomputable def sCmp (op : COp) (x y : X) (st : St) (fr : Fr) (h : H) : R := onInt (x.ev st fr) (fun k1 a => onInt (y.ev st fr) (fun k2 b => cond (kEq k1 k2) (onSome (cmpIS S op a b) (fun t => .ok (.bool t) h)) .no))
noncomputable def sEqv (neg : Bool) (k : EqK) (x y : X) (st : St) (fr : Fr) (h : H) : R := onSome (eqFS S k (x.ev st fr) (y.ev st fr)) (fun b => .ok (.bool (cond neg (!b) b)) h)
noncomputable def sI2i (k : IntKind) (x : X) (st : St) (fr : Fr) (h : H) : R := onInt (x.ev st fr) (fun _ n => cond (pln n) (ckR (.ok (.int k (wrapQ k n)) h)) (cond (okC S.m n && S.inK k n) (.ok (.int k n) h) .no))
noncomputable def sFold (g : V → V → Option V) (xs : List X) (st : St) (fr : Fr) (h : H) : R := List.casesOn (motive := fun _ => R) xs .no (fun x xs => foldX g xs st fr h (x.ev st fr))
noncomputable def sMx (xs : List X) (st : St) (fr : Fr) (h : H) : R := sFold (mx2S S) xs st fr h
noncomputable def sMn (xs : List X) (st : St) (fr : Fr) (h : H) : R := sFold (mn2S S) xs st fr h
noncomputable def sLk (kk : KyK) (ok : Bool) (z : V) (m k : X) (st : St) (fr : Fr) (h : H) : R := match kk with
  | .sc s => cond (keyOk (.sc s) (k.ev st fr)) (onMapN (m.ev st fr) (lkRes ok z h none) (fun r => onMapB (h.get r) (fun es _ => onSome (findKS S s (k.ev st fr) es) (lkRes ok z h)))) .no
  | _ => .no
noncomputable def sMset (kk : KyK) (m k x : X) (st : St) (fr : Fr) (h : H) : R := match kk with
  | .sc s => onMap (m.ev st fr) (fun r => cond (keyOk (.sc s) (k.ev st fr)) (onMapB (h.get r) (fun es clock =>
    onSome (findKS S s (k.ev st fr) es) (fun q => Option.casesOn (motive := fun _ => R) q
      (.ok (.tup []) (h.put r (.map (app es [(k.ev st fr, x.ev st fr, clock)]) (Nat.succ clock))))
      (fun e => .ok (.tup []) (h.put r (.map (setVal (x.ev st fr) es e.1) clock)))))) .no)
  | _ => .no
noncomputable def sDel (kk : KyK) (m k : X) (st : St) (fr : Fr) (h : H) : R := match kk with
  | .sc s => cond (keyOk (.sc s) (k.ev st fr)) (onMapN (m.ev st fr) (.ok (.tup []) h) (fun r => onMapB (h.get r) (fun es clock =>
    onSome (findKS S s (k.ev st fr) es) (fun q => Option.casesOn (motive := fun _ => R) q (.ok (.tup []) h) (fun e => .ok (.tup []) (h.put r (.map (dropAt es e.1) clock))))))) .no
  | _ => .no
end
noncomputable def sBits (op : BOp) (k : IntKind) (x y : X) (st : St) (fr : Fr) (h : H) : R := g1 x st fr (g1 y st fr (ckR (cBits op k x y st fr h)))
noncomputable def sShl (k : IntKind) (x y : X) (st : St) (fr : Fr) (h : H) : R := g1 x st fr (g1 y st fr (ckR (cShl k x y st fr h)))
noncomputable def sShr (k : IntKind) (x y : X) (st : St) (fr : Fr) (h : H) : R := g1 x st fr (g1 y st fr (ckR (cShr k x y st fr h)))
noncomputable def sNeg (k : IntKind) (x : X) (st : St) (fr : Fr) (h : H) : R := g1 x st fr (ckR (cNeg k x st fr h))
noncomputable def sXorU (k : IntKind) (x : X) (st : St) (fr : Fr) (h : H) : R := g1 x st fr (ckR (cXorU k x st fr h))
noncomputable def sI2s (x : X) (st : St) (fr : Fr) (h : H) : R := g1 x st fr (ckR (cI2s x st fr h))
noncomputable def strOk (v : V) (r : R) : R := V.casesOn (motive_1 := fun _ => R) v (fun _ _ => r) (fun _ => r) (fun l => cond (allL (fun n => Nat.blt n 256) l) r .no) r (fun _ _ => r) r (fun _ _ _ _ => r) r (fun _ => r) (fun _ _ _ => r) r (fun _ _ => r) r (fun _ => r) (fun _ => r) r r
noncomputable def sS2b (x : X) (st : St) (fr : Fr) (h : H) : R := strOk (x.ev st fr) (cS2b x st fr h)
noncomputable def sMksl (es bytes : Nat) (z : List V) (l c : X) (st : St) (fr : Fr) (h : H) : R := g1 l st fr (g1 c st fr (cMksl es bytes z l c st fr h))
noncomputable def sSls (x : X) (lo hi : Option X) (st : St) (fr : Fr) (h : H) : R := g0 lo st fr (g0 hi st fr (cSls x lo hi st fr h))
noncomputable def sSlc (es : Nat) (x : X) (lo hi mx : Option X) (st : St) (fr : Fr) (h : H) : R := g0 lo st fr (g0 hi st fr (g0 mx st fr (cSlc es x lo hi mx st fr h)))
noncomputable def sSlarr (es n : Nat) (x : X) (lo hi mx : Option X) (st : St) (fr : Fr) (h : H) : R := g0 lo st fr (g0 hi st fr (g0 mx st fr (cSlarr es n x lo hi mx st fr h)))
noncomputable def sIxa (es : Nat) (x i : X) (st : St) (fr : Fr) (h : H) : R := g1 i st fr (cIxa es x i st fr h)
noncomputable def sIxarr (es n : Nat) (x i : X) (st : St) (fr : Fr) (h : H) : R := g1 i st fr (cIxarr es n x i st fr h)
noncomputable def sIxs (x i : X) (st : St) (fr : Fr) (h : H) : R := g1 i st fr (ckR (cIxs x i st fr h))
noncomputable def sIxag (es n : Nat) (agg : Bool) (x i : X) (st : St) (fr : Fr) (h : H) : R := g1 i st fr (cIxag es n agg x i st fr h)
noncomputable def sLenc (n : Nat) (st : St) (fr : Fr) (h : H) : R := ckR (cLenc n st fr h)
noncomputable def sLenS (x : X) (st : St) (fr : Fr) (h : H) : R := ckR (cLenS x st fr h)
noncomputable def sLenL (x : X) (st : St) (fr : Fr) (h : H) : R := ckR (cLenL x st fr h)
noncomputable def sLenM (x : X) (st : St) (fr : Fr) (h : H) : R := ckR (cLenM x st fr h)
noncomputable def sCap (x : X) (st : St) (fr : Fr) (h : H) : R := ckR (cCap x st fr h)
noncomputable def sAppe (es bytes : Nat) (s x : X) (st : St) (fr : Fr) (h : H) : R := strOk (x.ev st fr) (cAppe es bytes s x st fr h)
noncomputable def semS (S : SP) (c : C) : St → Fr → H → R :=
  C.casesOn (motive := fun _ => St → Fr → H → R) c cMv cPick cAlloc cBox cBuild cBslice cLd cLdn cSt cNck (sAr S) (sCmp S) sBits sShl sShr cSadd cScmp (sEqv S) sNeg cNot sXorU (sI2i S) sI2s cS2s sS2b cB2s
    cMkif cMkfn cMkmap sMksl sSls sSlc sSlarr cFa cFld cFldn sIxa sIxarr sIxs sIxag (sLk S) (sMset S) (fun _ _ _ _ _ _ _ => .no) (fun _ _ _ _ _ _ => .no) (fun _ _ _ _ => .no) (fun _ _ _ _ _ => .no) (fun _ _ _ _ => .no) cAsr cExt sLenc sLenS sLenL sLenM sAppe (fun _ _ _ _ _ _ => .no) (sMx S) (sMn S) sCap (sDel S) cClr (fun _ _ _ _ => .no) (fun _ _ _ _ => .no) (fun _ _ _ _ _ => .no)

/-! ### constants are numbers of their own -/
def OX.pl (x : Option X) : Bool := match x with | none => true | some x => x.pl
noncomputable def psPl (ps : List (Nat × Nat × X)) : Bool := allL (fun p => p.2.2.pl) ps
noncomputable def xsPl (xs : List X) : Bool := allL X.pl xs
noncomputable def C.pl : C → Bool
  | .mv x => x.pl
  | .pick c a b => c.pl && a.pl && b.pl
  | .alloc z => V.pls z
  | .box x => x.pl
  | .build z ps => V.pls z && psPl ps
  | .bslice _ _ z ps => V.pls z && psPl ps
  | .ld x => x.pl
  | .ldn _ x => x.pl
  | .st _ a x => a.pl && x.pl
  | .nck x => x.pl
  | .ar _ _ x y => x.pl && y.pl
  | .cmp _ x y => x.pl && y.pl
  | .bits _ _ x y => x.pl && y.pl
  | .shl _ x y => x.pl && y.pl
  | .shr _ x y => x.pl && y.pl
  | .sadd x y => x.pl && y.pl
  | .scmp _ x y => x.pl && y.pl
  | .eqv _ _ x y => x.pl && y.pl
  | .neg _ x => x.pl
  | .not x => x.pl
  | .xorU _ x => x.pl
  | .i2i _ x => x.pl
  | .i2s x => x.pl
  | .s2s x => x.pl
  | .s2b x => x.pl
  | .b2s x => x.pl
  | .mkif _ x => x.pl
  | .mkfn _ a c => xsPl a && xsPl c
  | .mksl _ _ z l c => V.pls z && l.pl && c.pl
  | .sls x lo hi => x.pl && OX.pl lo && OX.pl hi
  | .slc _ x lo hi m3 => x.pl && OX.pl lo && OX.pl hi && OX.pl m3
  | .slarr _ _ x lo hi m3 => x.pl && OX.pl lo && OX.pl hi && OX.pl m3
  | .fa _ x => x.pl
  | .fld _ x => x.pl
  | .fldn _ _ x => x.pl
  | .ixa _ x i => x.pl && i.pl
  | .ixarr _ _ x i => x.pl && i.pl
  | .ixs x i => x.pl && i.pl
  | .ixag _ _ _ x i => x.pl && i.pl
  | .lk _ _ z m k => z.pl && m.pl && k.pl
  | .mset _ m k x => m.pl && k.pl && x.pl
  | .asr _ _ z x => z.pl && x.pl
  | .ext _ x => x.pl
  | .lenS x => x.pl
  | .lenL x => x.pl
  | .lenM x => x.pl
  | .appe _ _ s x => s.pl && x.pl
  | .mx xs => xsPl xs
  | .mn xs => xsPl xs
  | .cap x => x.pl
  | .del _ m k => m.pl && k.pl
  | .clr z x => V.pls z && x.pl
  | _ => true

section
variable {f : Int → Int} {h : H} {st : St} {fr : Fr} (hf : ∀ n, pln n = true → f n = n)
include hf
theorem g1_le {x : X} (hx : x.pl = true) {r s : R} (k : x.ev (stD f st) (frD f fr) = x.ev st fr → R.Le f r s) : R.Le f (g1 x st fr r) s := by
  unfold g1
  cases hp : (x.ev st fr).pl with
  | false => trivial
  | true => exact k (by rw [ev_D hf hx, D_pl hf _ hp])
theorem g0_le {x : Option X} (hx : OX.pl x = true) {r s : R} (k : (∀ d y, bnd x d y (stD f st) (frD f fr) = bnd x d y st fr) → R.Le f r s) : R.Le f (g0 x st fr r) s := by
  cases x with
  | none => exact k fun _ _ => rfl
  | some x =>
    refine g1_le hf hx fun e => k fun d y => ?_
    show Option.casesOn (motive := fun _ => Option Nat) (x.ev (stD f st) (frD f fr)).nat none _ = Option.casesOn (motive := fun _ => Option Nat) (x.ev st fr).nat none _
    rw [e]
theorem strOk_le {v : V} {r s : R} (k : (∀ l, v = .str l → (bytesV l).map (V.D f) = bytesV l) → R.Le f r s) : R.Le f (strOk v r) s := by
  cases v <;> first | exact k (fun l e => by cases e) | skip
  rename_i l
  show R.Le f (cond (allL (fun n => Nat.blt n 256) l) r .no) s
  cases hl : allL (fun n => Nat.blt n 256) l with
  | false => trivial
  | true =>
    refine k fun l' e => ?_
    obtain rfl : l = l' := by injection e
    rw [allL_eq, List.all_eq_true] at hl
    unfold bytesV
    rw [mapL_eq, List.map_map]
    apply List.map_congr_left
    intro n hn
    have := (natBlt_iff _ _).1 (hl n hn)
    show V.D f (.int .u8 (Int.ofNat n)) = _
    rw [V.D, hf]
    rw [pln_iff, Int.ofNat_eq_natCast]; omega
theorem evs_D {xs : List X} (hx : xsPl xs = true) : evs xs (stD f st) (frD f fr) = (evs xs st fr).map (V.D f) := by
  unfold xsPl at hx
  rw [allL_eq, List.all_eq_true] at hx
  unfold evs
  rw [mapL_eq, mapL_eq, List.map_map]
  exact List.map_congr_left fun x h => ev_D hf (hx x h)
theorem fill_D : ∀ {ps : List (Nat × Nat × X)} {cs : List V}, psPl ps = true → fill ps (stD f st) (frD f fr) (cs.map (V.D f)) = (fill ps st fr cs).map (List.map (V.D f))
  | [], _, _ => rfl
  | p :: ps, cs, hp => by
    have hp : cond p.2.2.pl (psPl ps) false = true := hp
    cases hx : p.2.2.pl with
    | false => rw [hx] at hp; cases hp
    | true =>
      rw [hx] at hp
      show Option.casesOn (motive := fun _ => Option (List V)) (p.2.2.ev (stD f st) (frD f fr)).flat1 none (fun vs => Option.casesOn (motive := fun _ => Option (List V)) (fill1 p.2.1 p.1 vs (cs.map (V.D f))) none (fill ps (stD f st) (frD f fr))) =
        Option.map (List.map (V.D f)) (Option.casesOn (motive := fun _ => Option (List V)) (p.2.2.ev st fr).flat1 none (fun vs => Option.casesOn (motive := fun _ => Option (List V)) (fill1 p.2.1 p.1 vs cs) none (fill ps st fr)))
      rw [ev_D hf hx, flat1_D]
      cases (p.2.2.ev st fr).flat1 with
      | none => rfl
      | some vs =>
        have e1 : fill1 p.2.1 p.1 (vs.map (V.D f)) (cs.map (V.D f)) = (fill1 p.2.1 p.1 vs cs).map (List.map (V.D f)) := by
          show cond (Nat.beq (Am.len (vs.map (V.D f))) p.2.1) (putAt p.1 (vs.map (V.D f)) (cs.map (V.D f))) none = Option.map (List.map (V.D f)) (cond (Nat.beq (Am.len vs) p.2.1) (putAt p.1 vs cs) none)
          rw [len_map, putAt_map]
          cases Nat.beq (Am.len vs) p.2.1 <;> rfl
        show Option.casesOn (motive := fun _ => Option (List V)) (fill1 p.2.1 p.1 (vs.map (V.D f)) (cs.map (V.D f))) none (fill ps (stD f st) (frD f fr)) = Option.map (List.map (V.D f)) (Option.casesOn (motive := fun _ => Option (List V)) (fill1 p.2.1 p.1 vs cs) none (fill ps st fr))
        rw [e1]
        cases fill1 p.2.1 p.1 vs cs with
        | none => rfl
        | some cs1 => exact fill_D hp
omit hf in
theorem roomOf_D (es : Nat) (b : P) (o : Nat) (c : Cp) : roomOf es b o c (h.D f) = roomOf es b o c h := by
  cases c with
  | ex k => rfl
  | fr es' =>
    show cond (Nat.beq es es') (Option.casesOn (motive := fun _ => Option Nat) ((h.D f).cells b) none (fun cs => some (Nat.div (Nat.sub (Am.len cs) o) es))) none = cond (Nat.beq es es') (Option.casesOn (motive := fun _ => Option Nat) (h.cells b) none (fun cs => some (Nat.div (Nat.sub (Am.len cs) o) es))) none
    rw [H.cells_D]
    cases h.cells b with
    | none => rfl
    | some cs => show cond _ (some (Nat.div (Nat.sub (Am.len (cs.map (V.D f))) o) es)) none = _; rw [len_map]
omit hf in
theorem le_same {o o' : Option Nat} {g g' : Nat → R} (e : o' = o) (k : ∀ a, R.Le f (g a) (g' a)) : R.Le f (onSome o g) (onSome o' g') :=
  le_onSome id (fun a h => by rw [e, h]; rfl) (fun a _ => k a)
omit hf in
theorem sliceOf_le {es : Nat} {b : P} {off n : Nat} {c : Cp} {lo hi mx : Option X} (h1 : ∀ d y, bnd lo d y (stD f st) (frD f fr) = bnd lo d y st fr) (h2 : ∀ d y, bnd hi d y (stD f st) (frD f fr) = bnd hi d y st fr) (h3 : ∀ d y, bnd mx d y (stD f st) (frD f fr) = bnd mx d y st fr) :
    R.Le f (sliceOf es b off n c lo hi mx st fr h) (sliceOf es b off n c lo hi mx (stD f st) (frD f fr) (h.D f)) := by
  unfold sliceOf
  exact le_same (roomOf_D es b off c) fun room => le_same (h3 _ _) fun m => le_same (h2 _ _) fun hh => le_same (h1 _ _) fun l => le_ok (by rw [V.D]) rfl
theorem lkRes_le {ok : Bool} {z : V} (hz : z.pl = true) (q : Option (Nat × V × Nat)) : R.Le f (lkRes ok z h q) (lkRes ok z (h.D f) (q.map fun e => (e.1, e.2.1.D f, e.2.2))) := by
  cases q with
  | none =>
    show R.Le f (.ok (cond ok (.tup [z, .bool false]) z) h) (.ok (cond ok (.tup [z, .bool false]) z) (h.D f))
    cases ok
    · exact le_ok (D_pl hf z hz).symm rfl
    · refine le_ok ?_ rfl
      show V.tup [z, .bool false] = V.D f (.tup [z, .bool false])
      rw [V.D, V.Ds, V.Ds, V.Ds, D_pl hf z hz, V.D]
  | some e =>
    show R.Le f (.ok (cond ok (.tup [e.2.1, .bool true]) e.2.1) h) (.ok (cond ok (.tup [e.2.1.D f, .bool true]) (e.2.1.D f)) (h.D f))
    cases ok
    · exact le_ok rfl rfl
    · refine le_ok ?_ rfl
      show V.tup [e.2.1.D f, .bool true] = V.D f (.tup [e.2.1, .bool true])
      rw [V.D, V.Ds, V.Ds, V.Ds, V.D]
end
section
variable {f : Int → Int}
theorem keyOk_D (s : SK) (v : V) : keyOk (.sc s) (v.D f) = keyOk (.sc s) v := by
  cases s <;> cases v <;> first | rfl | (rw [V.D]; rfl) | (rw [V.D])
theorem setVal_D (v : V) : ∀ (es : List (V × V × Nat)) (i : Nat), setVal (v.D f) (esD f es) i = esD f (setVal v es i)
  | [], i => by cases i <;> rfl
  | e :: es, 0 => rfl
  | e :: es, i + 1 => by
    show (e.1.D f, e.2.1.D f, e.2.2) :: setVal (v.D f) (esD f es) i = (e.1.D f, e.2.1.D f, e.2.2) :: esD f (setVal v es i)
    rw [setVal_D v es i]
theorem dropAt_D : ∀ (es : List (V × V × Nat)) (i : Nat), dropAt (esD f es) i = esD f (dropAt es i)
  | [], i => by cases i <;> rfl
  | e :: es, 0 => rfl
  | e :: es, i + 1 => by
    show (e.1.D f, e.2.1.D f, e.2.2) :: dropAt (esD f es) i = (e.1.D f, e.2.1.D f, e.2.2) :: esD f (dropAt es i)
    rw [dropAt_D es i]
end
end Go.Am
namespace Go.Am
section
variable {ρ : List Int} {S : SP} {h : H} {st : St} {fr : Fr}
theorem hfρ : ∀ n, pln n = true → dec ρ n = n := fun _ h => dec_pln h
theorem alloc_le {z : List V} {v v' : V} {ro : Bool} (e : v' = v.D (dec ρ)) : R.Le (dec ρ) (.ok v (h.alloc (.cells z ro))) (.ok v' ((h.D (dec ρ)).alloc (.cells (z.map (V.D (dec ρ))) ro))) :=
  le_ok e (H.alloc_D (h := h) (f := (dec ρ)) (.cells z ro))
theorem fold_le {g g' : V → V → Option V} (hg : ∀ {x y r}, g x y = some r → g' (x.D (dec ρ)) (y.D (dec ρ)) = some (r.D (dec ρ))) : ∀ {xs : List X} (v : V), xsPl xs = true → R.Le (dec ρ) (foldX g xs st fr h v) (foldX g' xs (stD (dec ρ) st) (frD (dec ρ) fr) (h.D (dec ρ)) (v.D (dec ρ)))
  | [], v, _ => le_ok rfl rfl
  | x :: xs, v, hx => by
    have hx : cond x.pl (xsPl xs) false = true := hx
    cases hp : x.pl with
    | false => rw [hp] at hx; cases hx
    | true =>
      rw [hp] at hx
      show R.Le (dec ρ) (onSome (g v (x.ev st fr)) (foldX g xs st fr h)) (onSome (g' (v.D (dec ρ)) (x.ev (stD (dec ρ) st) (frD (dec ρ) fr))) (foldX g' xs (stD (dec ρ) st) (frD (dec ρ) fr) (h.D (dec ρ))))
      rw [ev_D hfρ hp]
      exact le_onSome (V.D (dec ρ)) (fun a e => hg e) fun a _ => fold_le hg a hx
theorem sfold_le {g g' : V → V → Option V} {xs : List X} (hg : ∀ {x y r}, g x y = some r → g' (x.D (dec ρ)) (y.D (dec ρ)) = some (r.D (dec ρ))) (hx : xsPl xs = true) : R.Le (dec ρ) (sFold g xs st fr h) (sFold g' xs (stD (dec ρ) st) (frD (dec ρ) fr) (h.D (dec ρ))) := by
  cases xs with
  | nil => trivial
  | cons x xs =>
    have hx : cond x.pl (xsPl xs) false = true := hx
    cases hp : x.pl with
    | false => rw [hp] at hx; cases hx
    | true =>
      rw [hp] at hx
      show R.Le (dec ρ) (foldX g xs st fr h (x.ev st fr)) (foldX g' xs (stD (dec ρ) st) (frD (dec ρ) fr) (h.D (dec ρ)) (x.ev (stD (dec ρ) st) (frD (dec ρ) fr)))
      rw [ev_D hfρ hp]
      exact fold_le hg _ hx
theorem toBytes_D : ∀ {l : List V} {b : List Nat}, toBytes l = some b → toBytes (l.map (V.D (dec ρ))) = some b
  | [], _, h => h
  | v :: l, b, h => by
    have h : Option.casesOn (motive := fun _ => Option (List Nat)) v.byte none (fun m => Option.casesOn (motive := fun _ => Option (List Nat)) (toBytes l) none (fun r => some (m :: r))) = some b := h
    show Option.casesOn (motive := fun _ => Option (List Nat)) (v.D (dec ρ)).byte none (fun m => Option.casesOn (motive := fun _ => Option (List Nat)) (toBytes (l.map (V.D (dec ρ)))) none (fun r => some (m :: r))) = some b
    cases hb : v.byte with
    | none => rw [hb] at h; cases h
    | some m =>
      rw [hb] at h
      have hd : (v.D (dec ρ)).byte = some m := by
        unfold V.byte at hb
        split at hb
        · rename_i m'
          cases hm : Nat.blt m' 256 with
          | false => rw [hm] at hb; cases hb
          | true =>
            have := (natBlt_iff _ _).1 hm
            rw [V.D, dec_pln (by rw [pln_iff, Int.ofNat_eq_natCast]; omega)]
            show cond (Nat.blt m' 256) (some m') none = some m
            exact hb
        · cases hb
      rw [hd]
      cases ht : toBytes l with
      | none => rw [ht] at h; cases h
      | some r => rw [ht] at h; rw [toBytes_D ht]; exact h
theorem grow_le {es bytes o n m : Nat} {cs new : List V} : R.Le (dec ρ) (grow es bytes o n m cs new h) (grow es bytes o n m (cs.map (V.D (dec ρ))) (new.map (V.D (dec ρ))) (h.D (dec ρ))) := by
  unfold grow
  refine le_cond id fun _ => le_onSome (List.map (V.D (dec ρ))) (fun a e => by rw [dropN_map, takeN_map, e]; rfl) fun a _ => ?_
  rw [app_map]
  exact alloc_le (by rw [V.D]; rfl)
theorem appIn_le {es o n m : Nat} {b : P} {c : Cp} {new : List V} : R.Le (dec ρ) (appIn es b o n m c new h) (appIn es b o n m c (new.map (V.D (dec ρ))) (h.D (dec ρ))) := by
  unfold appIn
  exact le_onSome (H.D (dec ρ)) (fun a e => by rw [H.write_D, e]; rfl) fun a _ => le_ok (by rw [V.D]) rfl
theorem appTo_le {es bytes m o n : Nat} {b : P} {c : Cp} {new : List V} : R.Le (dec ρ) (appTo es bytes m new b o n c h) (appTo es bytes m (new.map (V.D (dec ρ))) b o n c (h.D (dec ρ))) := by
  unfold appTo
  refine le_cond2 rfl (fun _ => le_ok (by rw [V.D]) rfl) fun _ => ?_
  rw [H.get_D]
  refine le_onRow fun cs ro => ?_
  cases c with
  | ex k => exact le_cond2 rfl (fun _ => appIn_le) fun _ => grow_le
  | fr es' =>
    refine le_cond id fun _ => le_cond2 (by rw [len_map]) (fun _ => appIn_le) fun _ => le_cond2 rfl (fun _ => trivial) fun _ => ?_
    have : (h.D (dec ρ)).put b (.dead []) = (h.put b (.dead [])).D (dec ρ) := H.put_D (h := h) (f := (dec ρ)) b (.dead [])
    rw [this]
    exact grow_le
theorem onCells_le {es : Nat} {v : V} {g g' : Nat → List V → R} (hv : ∀ l, v = .str l → (bytesV l).map (V.D (dec ρ)) = bytesV l) (k : ∀ m new, R.Le (dec ρ) (g m new) (g' m (new.map (V.D (dec ρ))))) : R.Le (dec ρ) (onCells es v h g) (onCells es (v.D (dec ρ)) (h.D (dec ρ)) g') := by
  unfold onCells
  cases v <;> first | trivial | skip
  · rename_i l
    rw [V.D]
    refine le_cond id fun _ => ?_
    have := k (Am.len l) (bytesV l)
    rw [hv l rfl] at this
    exact this
  · rw [V.D]; exact k 0 []
  · rename_i b o n c
    rw [V.D]
    exact le_onSome (List.map (V.D (dec ρ))) (fun a e => by rw [H.read_D, e]; rfl) fun a _ => k n a
theorem putMap_le {r : P} {es fs : List (V × V × Nat)} {c : Nat} (e : fs = esD (dec ρ) es) : R.Le (dec ρ) (.ok (.tup []) (h.put r (.map es c))) (.ok (.tup []) ((h.D (dec ρ)).put r (.map fs c))) := by
  subst e
  exact le_ok (by rw [V.D, V.Ds]) (H.put_D (h := h) (f := (dec ρ)) r (.map es c))
theorem esD_app (es fs : List (V × V × Nat)) : app (esD (dec ρ) es) (esD (dec ρ) fs) = esD (dec ρ) (app es fs) := app_map _ _ _
end
end Go.Am
