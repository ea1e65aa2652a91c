/- All operations, regions, code, functions on such integers; a run of a law. -/
import Derived.Test.YtanlbgabfehaoaaGreatDoorSxA
import Derived.Test.YtanlbgabfehaoaaGreatDoorAmF
import Derived.Test.YtanlbgabfehaoaaGreatDoorAmE
namespace Go.Am
section
variable {ρ : List Int} {S : SP} {h : H} {st : St} {fr : Fr}
theorem and2 {a b : Bool} (h : (a && b) = true) : a = true ∧ b = true := by rwa [Bool.and_eq_true] at h
theorem and3 {a b c : Bool} (h : (a && b && c) = true) : a = true ∧ b = true ∧ c = true := by simpa [Bool.and_eq_true, and_assoc] using h
theorem and4 {a b c d : Bool} (h : (a && b && c && d) = true) : a = true ∧ b = true ∧ c = true ∧ d = true := by simpa [Bool.and_eq_true, and_assoc] using h
theorem int_le {r s : H → R} (hp : (∀ h, r h = .no) ∨ ∃ v, ∀ h, r h = .ok v h) (e : s (h.D (dec ρ)) = r (h.D (dec ρ))) : R.Le (dec ρ) (ckR (r h)) (s (h.D (dec ρ))) := by
  refine le_ck fun v h1 e1 hv => ?_
  rcases hp with hp | ⟨u, hp⟩
  · rw [hp] at e1; cases e1
  · rw [hp] at e1
    injection e1 with e2 e3
    subst e2 e3
    rw [e, hp, D_pl hfρ _ hv]
theorem sem_le (o : SPok ρ S) {c : C} (hc : c.pl = true) : R.Le (dec ρ) (semS S c st fr h) (c.sem (stD (dec ρ) st) (frD (dec ρ) fr) (h.D (dec ρ))) := by
  cases c
  case mv x => exact le_ok (ev_D hfρ hc) rfl
  case pick c a b =>
    obtain ⟨h1, h2, h3⟩ := and3 hc
    show R.Le _ (cPick c a b st fr h) (cPick c a b _ _ _)
    unfold cPick; rw [ev_D hfρ h1, ev_D hfρ h2, ev_D hfρ h3]
    exact le_onBool fun t _ => le_ok (by cases t <;> rfl) rfl
  case alloc z =>
    have := alloc_le (ρ := ρ) (h := h) (z := z) (v := .ptr h.next 0) (v' := .ptr h.next 0) (ro := false) (by rw [V.D])
    rw [map_pl hfρ hc] at this
    exact this
  case box x =>
    show R.Le _ (cBox x st fr h) (cBox x _ _ _)
    unfold cBox; rw [ev_D hfρ hc]
    exact le_onSome (List.map (V.D (dec ρ))) (fun a e => by rw [flat1_D, e]; rfl) fun a _ => alloc_le (by rw [V.D]; rfl)
  case build z ps =>
    obtain ⟨h1, h2⟩ := and2 hc
    show R.Le _ (cBuild z ps st fr h) (cBuild z ps _ _ _)
    unfold cBuild
    refine le_onSome (List.map (V.D (dec ρ))) (fun a e => ?_) fun a _ => le_ok (by rw [V.D, Ds_map]) rfl
    have := fill_D (st := st) (fr := fr) (hfρ (ρ := ρ)) (ps := ps) (cs := z) h2
    rw [map_pl hfρ h1, e] at this
    exact this
  case bslice es n z ps =>
    obtain ⟨h1, h2⟩ := and2 hc
    show R.Le _ (cBslice es n z ps st fr h) (cBslice es n z ps _ _ _)
    unfold cBslice
    refine le_onSome (List.map (V.D (dec ρ))) (fun a e => ?_) fun a _ => alloc_le (by rw [V.D]; rfl)
    have := fill_D (st := st) (fr := fr) (hfρ (ρ := ρ)) (ps := ps) (cs := z) h2
    rw [map_pl hfρ h1, e] at this
    exact this
  case ld x =>
    show R.Le _ (cLd x st fr h) (cLd x _ _ _)
    unfold cLd; rw [ev_D hfρ hc]
    exact le_onPtr fun b off => le_onSome (List.map (V.D (dec ρ))) (fun a e => by rw [H.cells_D, e]; rfl) fun a _ => le_onSome (V.D (dec ρ)) (fun v e => by rw [nth_map, e]; rfl) fun v _ => le_ok rfl rfl
  case ldn n x =>
    show R.Le _ (cLdn n x st fr h) (cLdn n x _ _ _)
    unfold cLdn; rw [ev_D hfρ hc]
    exact le_onPtr fun b off => le_onSome (List.map (V.D (dec ρ))) (fun a e => by rw [H.read_D, e]; rfl) fun a _ => le_ok (by rw [V.D, Ds_map]) rfl
  case st n a x =>
    obtain ⟨h1, h2⟩ := and2 hc
    show R.Le _ (cSt n a x st fr h) (cSt n a x _ _ _)
    unfold cSt; rw [ev_D hfρ h1, ev_D hfρ h2]
    exact le_onPtr fun b off => le_onSome (List.map (V.D (dec ρ))) (fun a e => by rw [flat1_D, e]; rfl) fun vs _ =>
      le_cond (by rw [len_map]; exact id) fun _ => le_onSome (H.D (dec ρ)) (fun a e => by rw [H.write_D, e]; rfl) fun a _ => le_ok (by rw [V.D, V.Ds]) rfl
  case nck x =>
    show R.Le _ (cNck x st fr h) (cNck x _ _ _)
    unfold cNck; rw [ev_D hfρ hc]
    exact le_onNck (fun b off => le_ok (by rw [V.D]) rfl) fun p a c => le_ok (by rw [V.D, Ds_map, Ds_map]) rfl
  case ar op k x y =>
    obtain ⟨h1, h2⟩ := and2 hc
    show R.Le _ (sAr S op k x y st fr h) (cAr op k x y _ _ _)
    unfold sAr cAr; rw [ev_D hfρ h1, ev_D hfρ h2]
    exact le_onInt fun k1 a _ => le_onInt fun k2 b _ => le_cond id fun _ => le_cond id fun _ => arS_le o
  case cmp op x y =>
    obtain ⟨h1, h2⟩ := and2 hc
    show R.Le _ (sCmp S op x y st fr h) (cCmp op x y _ _ _)
    unfold sCmp cCmp; rw [ev_D hfρ h1, ev_D hfρ h2]
    refine le_onInt fun k1 a _ => le_onInt fun k2 b _ => le_cond id fun _ => ?_
    cases hq : cmpIS S op a b with
    | none => trivial
    | some t => rw [cmpIS_ok o hq]; exact le_ok (by rw [V.D]) rfl
  case bits op k x y =>
    obtain ⟨h1, h2⟩ := and2 hc
    refine g1_le hfρ h1 fun e1 => g1_le hfρ h2 fun e2 => int_le (r := fun h => cBits op k x y st fr h) (s := fun h => cBits op k x y _ _ h) (isPu_ok (c := .bits op k x y) rfl st fr) ?_
    unfold cBits; rw [e1, e2]
  case shl k x y =>
    obtain ⟨h1, h2⟩ := and2 hc
    refine g1_le hfρ h1 fun e1 => g1_le hfρ h2 fun e2 => int_le (r := fun h => cShl k x y st fr h) (s := fun h => cShl k x y _ _ h) (isPu_ok (c := .shl k x y) rfl st fr) ?_
    unfold cShl; rw [e1, e2]
  case shr k x y =>
    obtain ⟨h1, h2⟩ := and2 hc
    refine g1_le hfρ h1 fun e1 => g1_le hfρ h2 fun e2 => int_le (r := fun h => cShr k x y st fr h) (s := fun h => cShr k x y _ _ h) (isPu_ok (c := .shr k x y) rfl st fr) ?_
    unfold cShr; rw [e1, e2]
  case sadd x y =>
    obtain ⟨h1, h2⟩ := and2 hc
    show R.Le _ (cSadd x y st fr h) (cSadd x y _ _ _)
    unfold cSadd; rw [ev_D hfρ h1, ev_D hfρ h2]
    exact le_onStr fun a _ => le_onStr fun b _ => le_cond id fun _ => le_ok (by rw [V.D]) rfl
  case scmp op x y =>
    obtain ⟨h1, h2⟩ := and2 hc
    show R.Le _ (cScmp op x y st fr h) (cScmp op x y _ _ _)
    unfold cScmp; rw [ev_D hfρ h1, ev_D hfρ h2]
    exact le_onStr fun a _ => le_onStr fun b _ => le_ok (by rw [V.D]) rfl
  case eqv neg k x y =>
    obtain ⟨h1, h2⟩ := and2 hc
    show R.Le _ (sEqv S neg k x y st fr h) (cEqv neg k x y _ _ _)
    unfold sEqv cEqv; rw [ev_D hfρ h1, ev_D hfρ h2]
    exact le_onSome id (fun a e => eqFS_ok o e) fun a _ => le_ok (by rw [V.D]; rfl) rfl
  case neg k x =>
    refine g1_le hfρ hc fun e1 => int_le (r := fun h => cNeg k x st fr h) (s := fun h => cNeg k x _ _ h) (isPu_ok (c := .neg k x) rfl st fr) ?_
    unfold cNeg; rw [e1]
  case not x =>
    show R.Le _ (cNot x st fr h) (cNot x _ _ _)
    unfold cNot; rw [ev_D hfρ hc]
    exact le_onBool fun a _ => le_ok (by rw [V.D]) rfl
  case xorU k x =>
    refine g1_le hfρ hc fun e1 => int_le (r := fun h => cXorU k x st fr h) (s := fun h => cXorU k x _ _ h) (isPu_ok (c := .xorU k x) rfl st fr) ?_
    unfold cXorU; rw [e1]
  case i2i k x =>
    show R.Le _ (sI2i S k x st fr h) (cI2i k x _ _ _)
    unfold sI2i cI2i; rw [ev_D hfρ hc]
    refine le_onInt fun k1 n _ => ?_
    cases hp : pln n with
    | true =>
      rw [dec_pln hp]
      exact int_le (r := fun h => .ok (.int k (wrapQ k n)) h) (s := fun h => .ok (.int k (wrapQ k n)) h) (.inr ⟨_, fun _ => rfl⟩) rfl
    | false =>
      rw [cond_false]
      cases hq : (okC S.m n && S.inK k n) with
      | false => trivial
      | true =>
        obtain ⟨q1, q2⟩ := and2 hq
        exact le_ok (by rw [V.D, o.inK q1 q2]) rfl
  case i2s x =>
    refine g1_le hfρ hc fun e1 => int_le (r := fun h => cI2s x st fr h) (s := fun h => cI2s x _ _ h) (isPu_ok (c := .i2s x) rfl st fr) ?_
    unfold cI2s; rw [e1]
  case s2s x =>
    show R.Le _ (cS2s x st fr h) (cS2s x _ _ _)
    unfold cS2s; rw [ev_D hfρ hc]
    exact le_onStr fun a _ => le_ok (by rw [V.D]) rfl
  case s2b x =>
    refine strOk_le hfρ fun hb => ?_
    show R.Le _ (cS2b x st fr h) (cS2b x _ _ _)
    unfold cS2b; rw [ev_D hfρ hc]
    refine le_onStr fun l hl => le_cond id fun _ => ?_
    have := alloc_le (ρ := ρ) (h := h) (z := bytesV l) (v := .sl h.next 0 (Am.len l) (.fr 1)) (v' := .sl h.next 0 (Am.len l) (.fr 1)) (ro := false) (by rw [V.D])
    rw [hb l hl] at this
    exact this
  case b2s x =>
    show R.Le _ (cB2s x st fr h) (cB2s x _ _ _)
    unfold cB2s; rw [ev_D hfρ hc]
    exact le_onSl (le_ok (by rw [V.D]) rfl) fun b off n c => le_onSome (List.map (V.D (dec ρ))) (fun a e => by rw [H.read_D, e]; rfl) fun cs _ => le_onSome id (fun a e => toBytes_D e) fun a _ => le_ok (by rw [V.D]; rfl) rfl
  case mkif t x =>
    show R.Le _ (cMkif t x st fr h) (cMkif t x _ _ _)
    unfold cMkif; rw [ev_D hfρ hc]
    exact le_ok (by rw [V.D]) rfl
  case mkfn p a c =>
    obtain ⟨h1, h2⟩ := and2 hc
    show R.Le _ (cMkfn p a c st fr h) (cMkfn p a c _ _ _)
    unfold cMkfn; rw [evs_D hfρ h1, evs_D hfρ h2]
    exact le_ok (by rw [V.D, Ds_map, Ds_map]) rfl
  case mkmap => exact le_ok (by rw [V.D]; rfl) (H.alloc_D (h := h) (f := dec ρ) (.map [] 0))
  case mksl es bytes z l c =>
    obtain ⟨h1, h2, h3⟩ := and3 hc
    refine g1_le hfρ h2 fun e1 => g1_le hfρ h3 fun e2 => ?_
    show R.Le _ (cMksl es bytes z l c st fr h) (cMksl es bytes z l c _ _ _)
    unfold cMksl; rw [e1, e2]
    refine le_same rfl fun l => le_same rfl fun c => le_cond id fun _ => le_cond id fun _ => le_cond id fun _ => ?_
    have := alloc_le (ρ := ρ) (h := h) (z := rep c z) (v := .sl h.next 0 l (.ex c)) (v' := .sl h.next 0 l (.ex c)) (ro := false) (by rw [V.D])
    rw [rep_map, map_pl hfρ h1] at this
    exact this
  case sls x lo hi =>
    obtain ⟨h1, h2, h3⟩ := and3 hc
    refine g0_le hfρ h2 fun e1 => g0_le hfρ h3 fun e2 => ?_
    show R.Le _ (cSls x lo hi st fr h) (cSls x lo hi _ _ _)
    unfold cSls; rw [ev_D hfρ h1]
    exact le_onStr fun s _ => le_same (e2 _ _) fun hh => le_same (e1 _ _) fun l => le_onSome id (fun a e => e) fun r _ => le_ok (by rw [V.D]; rfl) rfl
  case slc es x lo hi m3 =>
    obtain ⟨h1, h2, h3, h4⟩ := and4 hc
    refine g0_le hfρ h2 fun e1 => g0_le hfρ h3 fun e2 => g0_le hfρ h4 fun e3 => ?_
    show R.Le _ (cSlc es x lo hi m3 st fr h) (cSlc es x lo hi m3 _ _ _)
    unfold cSlc; rw [ev_D hfρ h1]
    exact le_onSl (le_same (e3 _ _) fun _ => le_same (e2 _ _) fun _ => le_same (e1 _ _) fun _ => le_ok (by rw [V.D]) rfl) fun b off n c => sliceOf_le e1 e2 e3
  case slarr es n x lo hi m3 =>
    obtain ⟨h1, h2, h3, h4⟩ := and4 hc
    refine g0_le hfρ h2 fun e1 => g0_le hfρ h3 fun e2 => g0_le hfρ h4 fun e3 => ?_
    show R.Le _ (cSlarr es n x lo hi m3 st fr h) (cSlarr es n x lo hi m3 _ _ _)
    unfold cSlarr; rw [ev_D hfρ h1]
    exact le_onPtr fun b off => sliceOf_le e1 e2 e3
  case fa off x =>
    show R.Le _ (cFa off x st fr h) (cFa off x _ _ _)
    unfold cFa; rw [ev_D hfρ hc]
    exact le_onPtr fun b o' => le_ok (by rw [V.D]) rfl
  case fld off x =>
    show R.Le _ (cFld off x st fr h) (cFld off x _ _ _)
    unfold cFld; rw [ev_D hfρ hc]
    exact le_onAgg fun cs => le_onSome (V.D (dec ρ)) (fun v e => by rw [nth_map, e]; rfl) fun v _ => le_ok rfl rfl
  case fldn off n x =>
    show R.Le _ (cFldn off n x st fr h) (cFldn off n x _ _ _)
    unfold cFldn; rw [ev_D hfρ hc]
    exact le_onAgg fun cs => le_onSome (List.map (V.D (dec ρ))) (fun v e => by rw [dropN_map, takeN_map, e]; rfl) fun v _ => le_ok (by rw [V.D, Ds_map]) rfl
  case ixa es x i =>
    obtain ⟨h1, h2⟩ := and2 hc
    refine g1_le hfρ h2 fun e1 => ?_
    show R.Le _ (cIxa es x i st fr h) (cIxa es x i _ _ _)
    unfold cIxa; rw [ev_D hfρ h1, e1]
    exact le_onSl trivial fun b off n c => le_same rfl fun i => le_cond id fun _ => le_ok (by rw [V.D]) rfl
  case ixarr es n x i =>
    obtain ⟨h1, h2⟩ := and2 hc
    refine g1_le hfρ h2 fun e1 => ?_
    show R.Le _ (cIxarr es n x i st fr h) (cIxarr es n x i _ _ _)
    unfold cIxarr; rw [ev_D hfρ h1, e1]
    exact le_onPtr fun b off => le_same rfl fun i => le_cond id fun _ => le_ok (by rw [V.D]) rfl
  case ixs x i =>
    obtain ⟨h1, h2⟩ := and2 hc
    refine g1_le hfρ h2 fun e1 => int_le (r := fun h => cIxs x i st fr h) (s := fun h => cIxs x i _ _ h) (isPu_ok (c := .ixs x i) rfl st fr) ?_
    unfold cIxs; rw [ev_D hfρ h1, e1]
    cases x.ev st fr <;> first | rfl | (rw [V.D]; done) | (rw [V.D]; rfl)
  case ixag es n agg x i =>
    obtain ⟨h1, h2⟩ := and2 hc
    refine g1_le hfρ h2 fun e1 => ?_
    show R.Le _ (cIxag es n agg x i st fr h) (cIxag es n agg x i _ _ _)
    unfold cIxag; rw [ev_D hfρ h1, e1]
    refine le_onAgg fun cs => le_same rfl fun i => le_cond id fun _ => le_cond2 rfl (fun _ => ?_) fun _ => ?_
    · exact le_onSome (List.map (V.D (dec ρ))) (fun v e => by rw [dropN_map, takeN_map, e]; rfl) fun v _ => le_ok (by rw [V.D, Ds_map]) rfl
    · exact le_onSome (V.D (dec ρ)) (fun v e => by rw [nth_map, e]; rfl) fun v _ => le_ok rfl rfl
  case lk kk ok z m k =>
    obtain ⟨h1, h2, h3⟩ := and3 hc
    cases kk with
    | flat => trivial
    | sc s =>
      show R.Le _ (_root_.cond (keyOk (.sc s) (k.ev st fr)) (onMapN (m.ev st fr) (lkRes ok z h none) (fun r => onMapB (h.get r) (fun es _ => onSome (findKS S s (k.ev st fr) es) (lkRes ok z h)))) .no) (cLk (.sc s) ok z m k _ _ _)
      unfold cLk; rw [ev_D hfρ h2, ev_D hfρ h3, keyOk_D]
      refine le_cond id fun _ => le_onMapN (lkRes_le hfρ h1 none) fun r => ?_
      rw [H.get_D]
      exact le_onMapB fun es c => le_onSome (Option.map fun e => (e.1, e.2.1.D (dec ρ), e.2.2)) (fun q e => findKS_ok o e) fun q _ => lkRes_le hfρ h1 q
  case mset kk m k x =>
    obtain ⟨h1, h2, h3⟩ := and3 hc
    cases kk with
    | flat => trivial
    | sc s =>
      show R.Le _ (onMap (m.ev st fr) (fun r => _root_.cond (keyOk (.sc s) (k.ev st fr)) (onMapB (h.get r) (fun es clock =>
        onSome (findKS S s (k.ev st fr) es) (fun q => Option.casesOn (motive := fun _ => R) q
          (.ok (.tup []) (h.put r (.map (app es [(k.ev st fr, x.ev st fr, clock)]) (Nat.succ clock))))
          (fun e => .ok (.tup []) (h.put r (.map (setVal (x.ev st fr) es e.1) clock)))))) .no)) (cMset (.sc s) m k x _ _ _)
      unfold cMset; rw [ev_D hfρ h1, ev_D hfρ h2, ev_D hfρ h3, keyOk_D]
      refine le_onMap fun r => le_cond id fun _ => ?_
      rw [H.get_D]
      refine le_onMapB fun es c => le_onSome (Option.map fun e => (e.1, e.2.1.D (dec ρ), e.2.2)) (fun q e => findKS_ok o e) fun q _ => ?_
      cases q with
      | none => exact putMap_le (esD_app es [(k.ev st fr, x.ev st fr, c)])
      | some e => exact putMap_le (setVal_D _ _ _)
  case ment => trivial
  case est => trivial
  case rng => trivial
  case nxt => trivial
  case ent => trivial
  case asr t ok z x =>
    obtain ⟨h1, h2⟩ := and2 hc
    show R.Le _ (cAsr t ok z x st fr h) (cAsr t ok z x _ _ _)
    unfold cAsr; rw [ev_D hfρ h2]
    have hz : V.tup [z, .bool false] = V.D (dec ρ) (.tup [z, .bool false]) := by rw [V.D, V.Ds, V.Ds, V.Ds, D_pl hfρ z h1, V.D]
    refine le_onIf (le_cond id fun _ => le_ok hz rfl) fun t' u => le_cond2 rfl (fun _ => le_ok ?_ rfl) fun _ => le_cond id fun _ => le_ok hz rfl
    cases ok
    · rfl
    · show V.tup [u.D (dec ρ), .bool true] = V.D (dec ρ) (.tup [u, .bool true])
      rw [V.D, V.Ds, V.Ds, V.Ds, V.D]
  case ext i x =>
    show R.Le _ (cExt i x st fr h) (cExt i x _ _ _)
    unfold cExt; rw [ev_D hfρ hc]
    exact le_onTup fun cs => le_onSome (V.D (dec ρ)) (fun v e => by rw [nth_map, e]; rfl) fun v _ => le_ok rfl rfl
  case lenc n => exact int_le (r := fun h => cLenc n st fr h) (s := fun h => cLenc n _ _ h) (.inr ⟨_, fun _ => rfl⟩) rfl
  case lenS x =>
    refine int_le (r := fun h => cLenS x st fr h) (s := fun h => cLenS x _ _ h) (isPu_ok (c := .lenS x) rfl st fr) ?_
    unfold cLenS; rw [ev_D hfρ hc]
    cases x.ev st fr <;> first | rfl | (rw [V.D]; done) | (rw [V.D]; rfl)
  case lenL x =>
    refine int_le (r := fun h => cLenL x st fr h) (s := fun h => cLenL x _ _ h) (isPu_ok (c := .lenL x) rfl st fr) ?_
    unfold cLenL; rw [ev_D hfρ hc]
    cases x.ev st fr <;> first | rfl | (rw [V.D]; done) | (rw [V.D]; rfl)
  case lenM x =>
    show R.Le _ (ckR (cLenM x st fr h)) (cLenM x _ _ _)
    refine le_ck fun v h1 e hv => ?_
    unfold cLenM at e ⊢
    rw [ev_D hfρ hc]
    cases hx : x.ev st fr <;> rw [hx] at e <;> first | (cases e; done) | skip
    · injection e with e1 e2
      subst e1 e2
      rw [D_pl hfρ _ hv, V.D]; rfl
    · rename_i b
      have e : onMapB (h.get b) (fun es _ => R.ok (.int .i64 (Int.ofNat (Am.len es))) h) = .ok v h1 := e
      rw [V.D]
      show onMapB ((h.D (dec ρ)).get b) (fun es _ => R.ok (.int .i64 (Int.ofNat (Am.len es))) (h.D (dec ρ))) = _
      rw [H.get_D]
      cases hb : h.get b with
      | none => rw [hb] at e; cases e
      | some bl =>
        rw [hb] at e
        cases bl <;> first | (cases e; done) | skip
        rename_i es c
        injection (show R.ok (.int .i64 (Int.ofNat (Am.len es))) h = .ok v h1 from e) with e1 e2
        subst e1 e2
        rw [D_pl hfρ _ hv]
        show R.ok (.int .i64 (Int.ofNat (Am.len (esD (dec ρ) es)))) _ = _
        unfold esD; rw [len_map]
  case appe es bytes s x =>
    obtain ⟨h1, h2⟩ := and2 hc
    refine strOk_le hfρ fun hb => ?_
    show R.Le _ (cAppe es bytes s x st fr h) (cAppe es bytes s x _ _ _)
    unfold cAppe; rw [ev_D hfρ h1, ev_D hfρ h2]
    refine onCells_le hb fun m new => le_onSl ?_ fun b off n c => appTo_le
    unfold appNil
    exact le_cond2 rfl (fun _ => le_ok (by rw [V.D]) rfl) fun _ => le_cond id fun _ => alloc_le (by rw [V.D]; rfl)
  case cpy => trivial
  case mx xs => exact sfold_le (fun e => mx2S_ok o e) hc
  case mn xs => exact sfold_le (fun e => mn2S_ok o e) hc
  case cap x =>
    show R.Le _ (ckR (cCap x st fr h)) (cCap x _ _ _)
    refine le_ck fun v h1 e hv => ?_
    unfold cCap at e ⊢
    rw [ev_D hfρ hc]
    cases hx : x.ev st fr <;> rw [hx] at e <;> first | (cases e; done) | skip
    · injection e with e1 e2
      subst e1 e2
      rw [D_pl hfρ _ hv, V.D]; rfl
    · rename_i b off n c
      cases c with
      | fr => cases e
      | ex c =>
        injection (show R.ok (.int .i64 (Int.ofNat c)) h = .ok v h1 from e) with e1 e2
        subst e1 e2
        rw [D_pl hfρ _ hv, V.D]; rfl
  case del kk m k =>
    obtain ⟨h1, h2⟩ := and2 hc
    cases kk with
    | flat => trivial
    | sc s =>
      show R.Le _ (_root_.cond (keyOk (.sc s) (k.ev st fr)) (onMapN (m.ev st fr) (.ok (.tup []) h) (fun r => onMapB (h.get r) (fun es clock =>
        onSome (findKS S s (k.ev st fr) es) (fun q => Option.casesOn (motive := fun _ => R) q (.ok (.tup []) h) (fun e => .ok (.tup []) (h.put r (.map (dropAt es e.1) clock))))))) .no) (cDel (.sc s) m k _ _ _)
      unfold cDel; rw [ev_D hfρ h1, ev_D hfρ h2, keyOk_D]
      refine le_cond id fun _ => le_onMapN (le_ok (by rw [V.D, V.Ds]) rfl) fun r => ?_
      rw [H.get_D]
      refine le_onMapB fun es c => le_onSome (Option.map fun e => (e.1, e.2.1.D (dec ρ), e.2.2)) (fun q e => findKS_ok o e) fun q _ => ?_
      cases q with
      | none => exact le_ok (by rw [V.D, V.Ds]) rfl
      | some e => exact putMap_le (dropAt_D _ _)
  case clr z x =>
    obtain ⟨h1, h2⟩ := and2 hc
    show R.Le _ (cClr z x st fr h) (cClr z x _ _ _)
    unfold cClr; rw [ev_D hfρ h2]
    refine le_onSl (le_ok (by rw [V.D, V.Ds]) rfl) fun b off n c => le_cond2 rfl (fun _ => le_ok (by rw [V.D, V.Ds]) rfl) fun _ => le_onSome (H.D (dec ρ)) (fun a e => ?_) fun a _ => le_ok (by rw [V.D, V.Ds]) rfl
    have := H.write_D (h := h) (f := dec ρ) b off (rep n z)
    rw [rep_map, map_pl hfρ h1, e] at this
    exact this
  case clm => trivial
  case usd => trivial
  case ustr => trivial
end
end Go.Am
namespace Go.Am
section
variable (S : SP)
noncomputable def sOp (_cf : CallF) (k : KK) (c : C) (st : St) (fr : Fr) (h : H) : RO := push k st fr (semS S c st fr h)
noncomputable def sGop (_cf : CallF) (k : KK) (i : I) (w : Bool) (c : C) (st : St) (fr : Fr) (h : H) : RO := push k st fr (onGuard (nthI .junk i st) w (semS S c st fr h) (.ok (.tup []) h))
noncomputable def sRe (_cf : CallF) (k : KK) (c : C) (i : I) (st : St) (fr : Fr) (h : H) : RO := same k st fr h (nthI .junk i st) (semS S c st fr h)
noncomputable def sGre (_cf : CallF) (k : KK) (g : I) (w : Bool) (c : C) (i : I) (st : St) (fr : Fr) (h : H) : RO := same k st fr h (nthI .junk i st) (onGuard (nthI .junk g st) w (semS S c st fr h) (.ok (.tup []) h))
noncomputable def sName (_cf : CallF) (k : KK) (c : C) (st : St) (fr : Fr) (h : H) : RO := R.casesOn (motive := fun _ => RO) (semS S c st fr h) .no (fun v h2 => onCs (h2.get h.next) (fun cs => k (v :: st) fr (h.alloc (.dead cs)))) (fun _ _ => .no)
noncomputable def It.semS (it : It) (cf : CallF) (k : KK) : KK := It.casesOn (motive := fun _ => KK) it (sOp S cf k) (sGop S cf k) (itCall cf k) (itGcall cf k) (itCallv cf k) (itGcallv cf k) (itKeep cf k) (sRe S cf k) (sGre S cf k) (sName S cf k) (itInit cf k) (itSlot cf k)
noncomputable def runItsS (cf : CallF) (l : List It) : KK := List.rec (motive := fun _ => KK) (fun _ fr h => .norm fr h) (fun it _ ih => it.semS S cf ih) l
noncomputable def execS (cf : CallF) (loops : Nat) (k : K) : Fr → H → RO :=
  K.rec (motive := fun _ => Fr → H → RO)
    RO.norm
    (fun _ l => runItsS S cf l [])
    (fun _ _ ia ib fr h => after (ia fr h) ib)
    (fun x _ _ ia ib fr h => kCond (x.ev [] fr) (ia fr h) (ib fr h))
    (fun id _ ia fr h => kBlock id (ia fr h))
    (fun _ ia => iter ia loops)
    RO.exit
    RO.ret k
noncomputable def extS (h : H) (e : Ext) (args : List V) : R := cond (V.pls args) (ckR (extR h e args)) .no
noncomputable def callFS (cf : CallF) (loops : Nat) (fn : AF) (args : List V) (h : H) : R := Option.casesOn (motive := fun _ => R) fn.ext
  (onSome (initFr fn.params args fn.sk) (fun fr => endR fn.res (execS S cf loops fn.body fr h))) (fun e => extS h e args)
noncomputable def callS (fns : T AF) (loops : Nat) (d : Nat) : CallF :=
  Nat.rec (motive := fun _ => CallF) (fun _ _ _ => .no) (fun _ ih f args h => onSome (fns.get f) (fun fn => callFS S ih loops fn args h)) d
end
/-! ### constants -/
noncomputable def It.pl (it : It) : Bool := It.casesOn (motive := fun _ => Bool) it (fun c => c.pl) (fun _ _ c => c.pl) (fun _ xs => xsPl xs) (fun _ _ _ xs => xsPl xs) (fun x xs => x.pl && xsPl xs) (fun _ _ x xs => x.pl && xsPl xs) (fun _ => true) (fun c _ => c.pl) (fun _ _ c _ => c.pl) (fun c => c.pl) (fun _ => true) (fun _ _ => true)
noncomputable def itsPl (l : List It) : Bool := allL It.pl l
noncomputable def K.pl (k : K) : Bool := K.rec (motive := fun _ => Bool) true (fun _ l => itsPl l) (fun _ _ a b => a && b) (fun x _ _ a b => x.pl && a && b) (fun _ _ a => a) (fun _ a => a) (fun _ => true) true k
noncomputable def AF.pl (a : AF) : Bool := emptyT a.sk && a.body.pl
noncomputable def allT {α : Type} (q : α → Bool) (t : T α) : Bool := T.rec (motive := fun _ => Bool) true (fun _ v _ l r => l && Option.casesOn (motive := fun _ => Bool) v true q && r) t
theorem allT_get {α : Type} {q : α → Bool} : ∀ (p : P) {t : T α} {a : α}, allT q t = true → t.get p = some a → q a = true
  | p, .nil, a, _, h => by rw [T.get_nil] at h; cases h
  | .z, .node l v r, a, h, e => by
    have h : (allT q l && Option.casesOn (motive := fun _ => Bool) v true q && allT q r) = true := h
    obtain ⟨h1, h2, h3⟩ := and3 h
    have e : v = some a := e
    rw [e] at h2; exact h2
  | .l p, .node l v r, a, h, e => by
    have h : (allT q l && Option.casesOn (motive := fun _ => Bool) v true q && allT q r) = true := h
    exact allT_get p (and3 h).1 e
  | .r p, .node l v r, a, h, e => by
    have h : (allT q l && Option.casesOn (motive := fun _ => Bool) v true q && allT q r) = true := h
    exact allT_get p (and3 h).2.2 e

def RO.Le (f : Int → Int) : RO → RO → Prop
  | .no, _ => True
  | .ask n k, s => ∃ k', s = .ask n k' ∧ ∀ i, RO.Le f (k i) (k' i)
  | .norm fr h, s => s = .norm (frD f fr) (h.D f)
  | .exit id fr h, s => s = .exit id (frD f fr) (h.D f)
  | .ret fr h, s => s = .ret (frD f fr) (h.D f)
section
variable {f : Int → Int} {h : H} {st : St} {fr : Fr}
theorem push_le {k k' : KK} (hk : ∀ v h, RO.Le f (k (v :: st) fr h) (k' (v.D f :: stD f st) (frD f fr) (h.D f))) : ∀ {r s : R}, R.Le f r s → RO.Le f (push k st fr r) (push k' (stD f st) (frD f fr) s)
  | .no, _, _ => trivial
  | .ok v h, s, e => by
    rw [show s = .ok (v.D f) (h.D f) from e]
    exact hk v h
  | .ask n q, s, e => by
    obtain ⟨q', rfl, e2⟩ := e
    exact ⟨_, rfl, fun i => push_le hk (e2 i)⟩
theorem after_le {g g' : Fr → H → RO} (hg : ∀ fr h, RO.Le f (g fr h) (g' (frD f fr) (h.D f))) : ∀ {r s : RO}, RO.Le f r s → RO.Le f (after r g) (after s g')
  | .no, _, _ => trivial
  | .ask n q, s, e => by obtain ⟨q', rfl, e2⟩ := e; exact ⟨_, rfl, fun i => after_le hg (e2 i)⟩
  | .norm fr h, s, e => by rw [show s = .norm (frD f fr) (h.D f) from e]; exact hg fr h
  | .exit id fr h, s, e => by rw [show s = .exit id (frD f fr) (h.D f) from e]; rfl
  | .ret fr h, s, e => by rw [show s = .ret (frD f fr) (h.D f) from e]; rfl
theorem iter_le {g g' : Fr → H → RO} (hg : ∀ fr h, RO.Le f (g fr h) (g' (frD f fr) (h.D f))) : ∀ (n : Nat) (fr : Fr) (h : H), RO.Le f (iter g n fr h) (iter g' n (frD f fr) (h.D f))
  | 0, _, _ => trivial
  | n + 1, fr, h => after_le (iter_le hg n) (hg fr h)
theorem kCond_le {v : V} {a b a' b' : RO} (h1 : RO.Le f a a') (h2 : RO.Le f b b') : RO.Le f (kCond v a b) (kCond (v.D f) a' b') := by
  cases v <;> first | trivial | skip
  rename_i t
  rw [V.D]
  cases t
  · exact h2
  · exact h1
theorem kBlock_le {id : Nat} : ∀ {r s : RO}, RO.Le f r s → RO.Le f (kBlock id r) (kBlock id s)
  | .no, _, _ => trivial
  | .ask n q, s, e => by obtain ⟨q', rfl, e2⟩ := e; exact ⟨_, rfl, fun i => kBlock_le (e2 i)⟩
  | .norm fr h, s, e => by rw [show s = .norm (frD f fr) (h.D f) from e]; rfl
  | .exit i fr h, s, e => by
    rw [show s = .exit i (frD f fr) (h.D f) from e]
    show RO.Le f (cond (Nat.beq i id) (.norm fr h) (.exit i fr h)) (cond (Nat.beq i id) (.norm (frD f fr) (h.D f)) (.exit i (frD f fr) (h.D f)))
    cases Nat.beq i id <;> rfl
  | .ret fr h, s, e => by rw [show s = .ret (frD f fr) (h.D f) from e]; rfl
theorem onGuard_le {g : V} {w : Bool} {a b a' b' : R} (h1 : R.Le f a a') (h2 : R.Le f b b') : R.Le f (onGuard g w a b) (onGuard (g.D f) w a' b') := by
  cases g <;> first | trivial | skip
  · rename_i t
    rw [V.D]
    exact le_cond2 rfl (fun _ => h1) (fun _ => h2)
  · rename_i l
    rw [V.D, Ds_map]
    cases l with
    | nil => exact h2
    | cons => trivial
mutual
theorem beq_D : ∀ (x y : V), x.beq y = true → (x.D f).beq (y.D f) = true
  | .int k n, y, h => by
    cases y <;> simp only [V.beq, Bool.false_eq_true] at h
    simp only [Bool.and_eq_true, intEq_iff] at h
    rw [V.D, V.D, V.beq, h.2, h.1, Bool.true_and, intEq_iff]
  | .fn p a c, y, h => by
    cases y <;> simp only [V.beq, Bool.false_eq_true] at h
    simp only [Bool.and_eq_true] at h
    rw [V.D, V.D, V.beq, h.1.1, beqs_D a _ h.1.2, beqs_D c _ h.2]; rfl
  | .iface t v, y, h => by
    cases y <;> simp only [V.beq, Bool.false_eq_true] at h
    simp only [Bool.and_eq_true] at h
    rw [V.D, V.D, V.beq, h.1, beq_D v _ h.2]; rfl
  | .agg cs, y, h => by
    cases y <;> simp only [V.beq, Bool.false_eq_true] at h
    rw [V.D, V.D, V.beq, beqs_D cs _ h]
  | .tup cs, y, h => by
    cases y <;> simp only [V.beq, Bool.false_eq_true] at h
    rw [V.D, V.D, V.beq, beqs_D cs _ h]
  | .bool b, y, h => by cases y <;> simp only [V.beq, Bool.false_eq_true] at h; simp only [V.D, V.beq]; exact h
  | .str b, y, h => by cases y <;> simp only [V.beq, Bool.false_eq_true] at h; rw [V.D, V.D, V.beq, h]
  | .nil, y, h => by cases y <;> simp only [V.beq, Bool.false_eq_true] at h; simp only [V.D, V.beq]
  | .nilsl, y, h => by cases y <;> simp only [V.beq, Bool.false_eq_true] at h; simp only [V.D, V.beq]
  | .nilmap, y, h => by cases y <;> simp only [V.beq, Bool.false_eq_true] at h; simp only [V.D, V.beq]
  | .nilfn, y, h => by cases y <;> simp only [V.beq, Bool.false_eq_true] at h; simp only [V.D, V.beq]
  | .niliface, y, h => by cases y <;> simp only [V.beq, Bool.false_eq_true] at h; simp only [V.D, V.beq]
  | .ptr b o, y, h => by cases y <;> simp only [V.beq, Bool.false_eq_true] at h; rw [V.D, V.D, V.beq, h]
  | .sl b o n c, y, h => by cases y <;> simp only [V.beq, Bool.false_eq_true] at h; rw [V.D, V.D, V.beq, h]
  | .map b, y, h => by cases y <;> simp only [V.beq, Bool.false_eq_true] at h; rw [V.D, V.D, V.beq, h]
  | .undef, y, h => by cases y <;> simp only [V.beq, Bool.false_eq_true] at h
  | .junk, y, h => by cases y <;> simp only [V.beq, Bool.false_eq_true] at h
theorem beqs_D : ∀ (x y : List V), V.beqs x y = true → V.beqs (V.Ds f x) (V.Ds f y) = true
  | [], [], _ => by rw [V.Ds, V.beqs]
  | [], _ :: _, h => by simp [V.beqs] at h
  | _ :: _, [], h => by simp [V.beqs] at h
  | a :: x, b :: y, h => by
    simp only [V.beqs, Bool.and_eq_true] at h
    rw [V.Ds, V.Ds, V.beqs, beq_D a b h.1, beqs_D x y h.2]; rfl
end
theorem same_le {k k' : KK} (hk : RO.Le f (k st fr h) (k' (stD f st) (frD f fr) (h.D f))) {v : V} : ∀ {r s : R}, R.Le f r s → RO.Le f (same k st fr h v r) (same k' (stD f st) (frD f fr) (h.D f) (v.D f) s)
  | .no, _, _ => trivial
  | .ask n q, _, e => by obtain ⟨q', rfl, e2⟩ := e; trivial
  | .ok u h1, s, e => by
    rw [show s = .ok (u.D f) (h1.D f) from e]
    show RO.Le f (cond (u.beq v) (k st fr h) .no) (cond ((u.D f).beq (v.D f)) (k' (stD f st) (frD f fr) (h.D f)) .no)
    cases hb : u.beq v with
    | false => trivial
    | true => rw [beq_D u v hb]; exact hk
theorem set_frD {p : P} {v : V} : (frD f fr).set p (v.D f) = frD f (fr.set p v) := T.set_mapT _ _ _ _
theorem nthI_D (i : I) : nthI .junk i (stD f st) = (nthI .junk i st).D f := by
  show nthI .junk i (st.map (V.D f)) = (nthI .junk i st).D f
  rw [nthI_eq, nthI_eq, List.getD_eq_getElem?_getD, List.getD_eq_getElem?_getD, List.getElem?_map]
  cases st[i.num]? with
  | none => simp [V.D]
  | some v => rfl
theorem blk_D (v : V) : (v.D f).blk = v.blk := by cases v <;> rw [V.D] <;> rfl
theorem onCs_le {o : Option Blk} {g g' : List V → RO} (k : ∀ cs, RO.Le f (g cs) (g' (cs.map (V.D f)))) : RO.Le f (onCs o g) (onCs (o.map (Blk.D f)) g') := by
  cases o with
  | none => trivial
  | some b => cases b <;> first | trivial | exact k _
theorem onDead_le {o : Option Blk} {g g' : List V → RO} (k : ∀ cs, RO.Le f (g cs) (g' (cs.map (V.D f)))) : RO.Le f (onDead o g) (onDead (o.map (Blk.D f)) g') := by
  cases o with
  | none => trivial
  | some b => cases b <;> first | trivial | exact k _
theorem emptyT_D (g : V → V) : ∀ {t : T V}, emptyT t = true → t.mapT g = t
  | .nil, _ => rfl
  | .node l v r, h => by
    have h : (emptyT l && v.isNone && emptyT r) = true := h
    obtain ⟨h1, h2, h3⟩ := and3 h
    cases v with
    | some => cases h2
    | none => rw [T.mapT, emptyT_D g h1, emptyT_D g h3]; rfl
theorem initFr_D : ∀ (ps : List P) (vs : List V) (fr : Fr), initFr ps (vs.map (V.D f)) (frD f fr) = (initFr ps vs fr).map (frD f)
  | [], [], _ => rfl
  | [], _ :: _, _ => rfl
  | _ :: _, [], _ => rfl
  | p :: ps, v :: vs, fr => by
    show initFr ps (vs.map (V.D f)) ((frD f fr).set p (v.D f)) = (initFr ps vs (fr.set p v)).map (frD f)
    rw [set_frD]
    exact initFr_D ps vs _
theorem res1_D (r : RV) : res1 (frD f fr) (h.D f) r = (res1 fr h r).map (V.D f) := by
  cases r with
  | tmp p => exact T.get_mapT _ _ _
  | cell p =>
    unfold res1
    simp only [show (frD f fr).get p = (fr.get p).map (V.D f) from T.get_mapT _ _ _]
    cases fr.get p with
    | none => rfl
    | some v =>
      cases v <;> simp only [Option.map_some, V.D] <;> first | rfl | skip
      rename_i b o
      rw [H.cells_D]
      cases h.cells b with
      | none => rfl
      | some cs => exact nth_map _ _ _
  | celln p n =>
    unfold res1
    simp only [show (frD f fr).get p = (fr.get p).map (V.D f) from T.get_mapT _ _ _]
    cases fr.get p with
    | none => rfl
    | some v =>
      cases v <;> simp only [Option.map_some, V.D] <;> first | rfl | skip
      rename_i b o
      rw [H.read_D]
      cases h.read b o n with
      | none => rfl
      | some cs => simp only [Option.map_some, V.D, Ds_map]
theorem resOf_D : ∀ (l : List RV), resOf (frD f fr) (h.D f) l = (resOf fr h l).map (List.map (V.D f))
  | [] => rfl
  | r :: l => by
    show Option.casesOn (motive := fun _ => Option (List V)) (resOf (frD f fr) (h.D f) l) none (fun vs => Option.casesOn (motive := fun _ => Option (List V)) (res1 (frD f fr) (h.D f) r) none (fun v => some (v :: vs))) =
      Option.map (List.map (V.D f)) (Option.casesOn (motive := fun _ => Option (List V)) (resOf fr h l) none (fun vs => Option.casesOn (motive := fun _ => Option (List V)) (res1 fr h r) none (fun v => some (v :: vs))))
    rw [resOf_D l, res1_D]
    cases resOf fr h l with
    | none => rfl
    | some vs => cases res1 fr h r <;> rfl
theorem packR_D : ∀ vs : List V, packR (vs.map (V.D f)) = (packR vs).D f
  | [] => by show V.tup [] = V.D f (.tup []); rw [V.D, V.Ds]
  | [v] => rfl
  | a :: b :: vs => by show V.tup ((a :: b :: vs).map (V.D f)) = V.D f (.tup (a :: b :: vs)); rw [V.D, Ds_map]
theorem retR_le (l : List RV) : R.Le f (retR fr h l) (retR (frD f fr) (h.D f) l) := by
  unfold retR
  rw [resOf_D]
  cases resOf fr h l with
  | none => trivial
  | some vs => exact le_ok (packR_D vs) rfl
theorem endR_le (l : List RV) : ∀ {r s : RO}, RO.Le f r s → R.Le f (endR l r) (endR l s)
  | .no, _, _ => trivial
  | .ask n q, s, e => by obtain ⟨q', rfl, e2⟩ := e; exact ⟨_, rfl, fun i => endR_le l (e2 i)⟩
  | .norm fr h, s, e => by rw [show s = .norm (frD f fr) (h.D f) from e]; exact retR_le l
  | .exit i fr h, s, e => by rw [show s = .exit i (frD f fr) (h.D f) from e]; trivial
  | .ret fr h, s, e => by rw [show s = .ret (frD f fr) (h.D f) from e]; exact retR_le l
end
section
variable {ρ : List Int} {S : SP} (o : SPok ρ S)
def CfLe (ρ : List Int) (cs cf : CallF) : Prop := ∀ p vs h, R.Le (dec ρ) (cs p vs h) (cf p (vs.map (V.D (dec ρ))) (h.D (dec ρ)))
theorem callX_le {cs cf : CallF} (hc : CfLe ρ cs cf) {v : V} {vs : List V} {h : H} : R.Le (dec ρ) (callX cs v vs h) (callX cf (v.D (dec ρ)) (vs.map (V.D (dec ρ))) (h.D (dec ρ))) := by
  unfold callX
  refine le_onFn fun p a c => ?_
  rw [app_map, app_map]
  exact hc p _ h
include o
theorem it_le {cs cf : CallF} (hc : CfLe ρ cs cf) {k k' : KK} (hk : ∀ st fr h, RO.Le (dec ρ) (k st fr h) (k' (stD (dec ρ) st) (frD (dec ρ) fr) (h.D (dec ρ)))) {it : It} (hp : it.pl = true) (st : St) (fr : Fr) (h : H) :
    RO.Le (dec ρ) (it.semS S cs k st fr h) (it.sem cf k' (stD (dec ρ) st) (frD (dec ρ) fr) (h.D (dec ρ))) := by
  have hk1 : ∀ v h, RO.Le (dec ρ) (k (v :: st) fr h) (k' (v.D (dec ρ) :: stD (dec ρ) st) (frD (dec ρ) fr) (h.D (dec ρ))) := fun v h => hk (v :: st) fr h
  have t0 : ∀ h : H, R.Le (dec ρ) (.ok (.tup []) h) (.ok (.tup []) (h.D (dec ρ))) := fun h => le_ok (by rw [V.D, V.Ds]) rfl
  cases it
  case op c => exact push_le hk1 (sem_le o hp)
  case gop i w c =>
    show RO.Le _ (push k st fr (onGuard (nthI .junk i st) w (semS S c st fr h) (.ok (.tup []) h))) (push k' _ _ (onGuard (nthI .junk i (stD (dec ρ) st)) w (c.sem _ _ _) (.ok (.tup []) _)))
    rw [nthI_D]
    exact push_le hk1 (onGuard_le (sem_le o hp) (t0 h))
  case call p xs =>
    show RO.Le _ (push k st fr (cs p (evs xs st fr) h)) (push k' _ _ (cf p (evs xs (stD (dec ρ) st) (frD (dec ρ) fr)) _))
    rw [evs_D hfρ hp]
    exact push_le hk1 (hc p _ h)
  case gcall i w p xs =>
    show RO.Le _ (push k st fr (onGuard (nthI .junk i st) w (cs p (evs xs st fr) h) (.ok (.tup []) h))) (push k' _ _ (onGuard (nthI .junk i (stD (dec ρ) st)) w (cf p (evs xs (stD (dec ρ) st) (frD (dec ρ) fr)) _) (.ok (.tup []) _)))
    rw [nthI_D, evs_D hfρ hp]
    exact push_le hk1 (onGuard_le (hc p _ h) (t0 h))
  case callv x xs =>
    obtain ⟨h1, h2⟩ := and2 hp
    show RO.Le _ (push k st fr (callX cs (x.ev st fr) (evs xs st fr) h)) (push k' _ _ (callX cf (x.ev (stD (dec ρ) st) (frD (dec ρ) fr)) (evs xs (stD (dec ρ) st) (frD (dec ρ) fr)) _))
    rw [ev_D hfρ h1, evs_D hfρ h2]
    exact push_le hk1 (callX_le hc)
  case gcallv i w x xs =>
    obtain ⟨h1, h2⟩ := and2 hp
    show RO.Le _ (push k st fr (onGuard (nthI .junk i st) w (callX cs (x.ev st fr) (evs xs st fr) h) (.ok (.tup []) h))) (push k' _ _ (onGuard (nthI .junk i (stD (dec ρ) st)) w (callX cf (x.ev (stD (dec ρ) st) (frD (dec ρ) fr)) (evs xs (stD (dec ρ) st) (frD (dec ρ) fr)) _) (.ok (.tup []) _)))
    rw [nthI_D, ev_D hfρ h1, evs_D hfρ h2]
    exact push_le hk1 (onGuard_le (callX_le hc) (t0 h))
  case keep p =>
    show RO.Le _ (k st (fr.set p (nthI .junk .z st)) h) (k' _ ((frD (dec ρ) fr).set p (nthI .junk .z (stD (dec ρ) st))) _)
    rw [nthI_D, set_frD]
    exact hk _ _ _
  case re c i =>
    show RO.Le _ (same k st fr h (nthI .junk i st) (semS S c st fr h)) (same k' _ _ _ (nthI .junk i (stD (dec ρ) st)) (c.sem _ _ _))
    rw [nthI_D]
    exact same_le (hk st fr h) (sem_le o hp)
  case gre g w c i =>
    show RO.Le _ (same k st fr h (nthI .junk i st) (onGuard (nthI .junk g st) w (semS S c st fr h) (.ok (.tup []) h))) (same k' _ _ _ (nthI .junk i (stD (dec ρ) st)) (onGuard (nthI .junk g (stD (dec ρ) st)) w (c.sem _ _ _) (.ok (.tup []) _)))
    rw [nthI_D, nthI_D]
    exact same_le (hk st fr h) (onGuard_le (sem_le o hp) (t0 h))
  case name c =>
    have hs := sem_le (h := h) (st := st) (fr := fr) o (c := c) hp
    show RO.Le _ (R.casesOn (motive := fun _ => RO) (semS S c st fr h) .no (fun v h2 => onCs (h2.get h.next) (fun cs => k (v :: st) fr (h.alloc (.dead cs)))) (fun _ _ => .no))
      (R.casesOn (motive := fun _ => RO) (c.sem (stD (dec ρ) st) (frD (dec ρ) fr) (h.D (dec ρ))) .no (fun v h2 => onCs (h2.get (h.D (dec ρ)).next) (fun cs => k' (v :: stD (dec ρ) st) (frD (dec ρ) fr) ((h.D (dec ρ)).alloc (.dead cs)))) (fun _ _ => .no))
    cases hr : semS S c st fr h with
    | no => trivial
    | ask n q => trivial
    | ok v h2 =>
      rw [hr] at hs
      rw [show c.sem (stD (dec ρ) st) (frD (dec ρ) fr) (h.D (dec ρ)) = .ok (v.D (dec ρ)) (h2.D (dec ρ)) from hs]
      show RO.Le _ (onCs (h2.get h.next) _) (onCs ((h2.D (dec ρ)).get h.next) _)
      rw [H.get_D]
      refine onCs_le fun cs => ?_
      rw [show (h.D (dec ρ)).alloc (.dead (cs.map (V.D (dec ρ)))) = (h.alloc (.dead cs)).D (dec ρ) from H.alloc_D (h := h) (f := dec ρ) (.dead cs)]
      exact hk1 v _
  case init i =>
    show RO.Le _ (Option.casesOn (motive := fun _ => RO) (nthI .junk i st).blk .no (fun b => onDead (h.get b) (fun cs => k st fr (h.put b (.cells cs false)))))
      (Option.casesOn (motive := fun _ => RO) (nthI .junk i (stD (dec ρ) st)).blk .no (fun b => onDead ((h.D (dec ρ)).get b) (fun cs => k' (stD (dec ρ) st) (frD (dec ρ) fr) ((h.D (dec ρ)).put b (.cells cs false)))))
    rw [nthI_D, blk_D]
    cases (nthI .junk i st).blk with
    | none => trivial
    | some b =>
      show RO.Le _ (onDead (h.get b) _) (onDead ((h.D (dec ρ)).get b) _)
      rw [H.get_D]
      refine onDead_le fun cs => ?_
      rw [show (h.D (dec ρ)).put b (.cells (cs.map (V.D (dec ρ))) false) = (h.put b (.cells cs false)).D (dec ρ) from H.put_D (h := h) (f := dec ρ) b (.cells cs false)]
      exact hk _ _ _
  case slot p i =>
    show RO.Le _ (k st (fr.set p (nthI .junk i st)) h) (k' _ ((frD (dec ρ) fr).set p (nthI .junk i (stD (dec ρ) st))) _)
    rw [nthI_D, set_frD]
    exact hk _ _ _
theorem its_le {cs cf : CallF} (hc : CfLe ρ cs cf) : ∀ {l : List It}, itsPl l = true → ∀ (st : St) (fr : Fr) (h : H), RO.Le (dec ρ) (runItsS S cs l st fr h) (runIts cf l (stD (dec ρ) st) (frD (dec ρ) fr) (h.D (dec ρ)))
  | [], _, _, _, _ => rfl
  | it :: l, hp, st, fr, h => by
    have hp : cond it.pl (itsPl l) false = true := hp
    cases hi : it.pl with
    | false => rw [hi] at hp; cases hp
    | true => rw [hi] at hp; exact it_le o hc (its_le hc hp) hi st fr h
theorem exec_le {cs cf : CallF} (hc : CfLe ρ cs cf) (loops : Nat) : ∀ {k : K}, k.pl = true → ∀ (fr : Fr) (h : H), RO.Le (dec ρ) (execS S cs loops k fr h) (exec cf loops k (frD (dec ρ) fr) (h.D (dec ρ)))
  | .skip, _, _, _ => rfl
  | .reg _ l, hp, fr, h => its_le o hc (l := l) hp [] fr h
  | .seq a b, hp, fr, h => by
    obtain ⟨h1, h2⟩ := and2 (show (a.pl && b.pl) = true from hp)
    exact after_le (exec_le hc loops h2) (exec_le hc loops h1 fr h)
  | .cond x a b, hp, fr, h => by
    obtain ⟨h0, h1, h2⟩ := and3 (show (x.pl && a.pl && b.pl) = true from hp)
    show RO.Le _ (kCond (x.ev [] fr) (execS S cs loops a fr h) (execS S cs loops b fr h)) (kCond (x.ev (stD (dec ρ) []) (frD (dec ρ) fr)) (exec cf loops a _ _) (exec cf loops b _ _))
    rw [ev_D hfρ h0]
    exact kCond_le (exec_le hc loops h1 fr h) (exec_le hc loops h2 fr h)
  | .block id a, hp, fr, h => kBlock_le (exec_le hc loops (k := a) hp fr h)
  | .loop a, hp, fr, h => iter_le (exec_le hc loops (k := a) hp) loops fr h
  | .exit _, _, _, _ => rfl
  | .ret, _, _, _ => rfl
omit o in
theorem ext_le {h : H} {e : Ext} {args : List V} : R.Le (dec ρ) (extS h e args) (extR (h.D (dec ρ)) e (args.map (V.D (dec ρ)))) := by
  unfold extS
  cases hp : V.pls args with
  | false => trivial
  | true =>
    rw [map_pl hfρ hp]
    refine le_ck fun v h1 e1 hv => ?_
    rw [D_pl hfρ _ hv]
    unfold extR at e1 ⊢
    split at e1
    · injection e1 with a1 a2; subst a1 a2; rfl
    · rename_i a c
      show cond (Nat.blt c 256) (R.ok (.int .i64 (indexByte (.ofNat c) a)) (h.D (dec ρ))) R.no = _
      cases hc : Nat.blt c 256 with
      | false => rw [hc] at e1; cases e1
      | true =>
        rw [hc] at e1
        injection e1 with a1 a2; subst a1 a2; rfl
    · rename_i a c
      show cond (Nat.blt c 256) (R.ok (.int .i64 (Int.ofNat (len (filterL (fun x => intEq (Int.ofNat x) (.ofNat c)) a)))) (h.D (dec ρ))) R.no = _
      cases hc : Nat.blt c 256 with
      | false => rw [hc] at e1; cases e1
      | true =>
        rw [hc] at e1
        injection e1 with a1 a2; subst a1 a2; rfl
    · rename_i a b
      show cond (Nat.blt (len b) 2 || Nat.blt 63 (len b)) R.no (R.ok (.int .i64 (indexStr b a)) (h.D (dec ρ))) = _
      cases hc : (Nat.blt (len b) 2 || Nat.blt 63 (len b)) with
      | true => rw [hc] at e1; cases e1
      | false =>
        rw [hc] at e1
        injection e1 with a1 a2; subst a1 a2; rfl
    · rename_i k n
      show cond (Nat.ble n 140737488355328) (R.ok (.sl (h.D (dec ρ)).next 0 n (.fr 1)) ((h.D (dec ρ)).alloc (.cells (rep n [.undef]) false))) R.no = _
      cases hc : Nat.ble n 140737488355328 with
      | false => rw [hc] at e1; cases e1
      | true =>
        rw [hc] at e1
        injection e1 with a1 a2; subst a1 a2
        show R.ok _ _ = R.ok _ _
        have : (h.D (dec ρ)).alloc (.cells ((rep n [V.undef]).map (V.D (dec ρ))) false) = (h.alloc (.cells (rep n [.undef]) false)).D (dec ρ) := H.alloc_D (h := h) (f := dec ρ) (.cells (rep n [.undef]) false)
        rw [rep_map] at this
        rw [← this]
        simp only [List.map_cons, List.map_nil, V.D]; rfl
    · cases e1
theorem call_le {fns : T AF} (hp : allT AF.pl fns = true) (loops : Nat) : ∀ d, CfLe ρ (callS S fns loops d) (call fns loops d)
  | 0, _, _, _ => trivial
  | d + 1, p, vs, h => by
    show R.Le _ (onSome (fns.get p) (fun fn => callFS S (callS S fns loops d) loops fn vs h)) (onSome (fns.get p) (fun fn => callF (call fns loops d) loops fn (vs.map (V.D (dec ρ))) (h.D (dec ρ))))
    refine le_onSome id (fun a e => e) fun fn e => ?_
    have hq : AF.pl fn = true := allT_get p hp e
    obtain ⟨hs, hb⟩ := and2 (show (emptyT fn.sk && fn.body.pl) = true from hq)
    show R.Le _ (callFS S (callS S fns loops d) loops fn vs h) (callF (call fns loops d) loops fn (vs.map (V.D (dec ρ))) (h.D (dec ρ)))
    unfold callFS callF
    cases fn.ext with
    | some e => exact ext_le
    | none =>
      refine le_onSome (frD (dec ρ)) (fun fr e => ?_) fun fr _ => endR_le _ (exec_le o (call_le hp loops d) loops hb fr h)
      have := initFr_D (f := dec ρ) fn.params vs fn.sk
      rw [show frD (dec ρ) fn.sk = fn.sk from emptyT_D _ hs, e] at this
      exact this
omit o in
theorem leaf_le : ∀ {r s : R}, R.Le (dec ρ) r s → r.all = true → AllTrue s
  | .no, _, _, h => by cases h
  | .ok v h0, s, e, h => by
    rw [show s = .ok (v.D (dec ρ)) (h0.D (dec ρ)) from e]
    have hv := V.isTrue_spec (show v.isTrue = true from h)
    subst hv
    exact AllTrue.of_eq (h := h0.D (dec ρ)) (by rw [V.D])
  | .ask n k, s, e, h => by
    obtain ⟨k', rfl, e2⟩ := e
    have h : cond (Nat.blt 0 n) (allBelow n fun i => (k i).all) false = true := h
    cases hb : Nat.blt 0 n with
    | false => rw [hb] at h; cases h
    | true =>
      rw [hb] at h
      have key : ∀ i, i < n → AllTrue (k' i) := fun i hi => leaf_le (e2 i) (allBelow_spec h i hi)
      exact ⟨⟨(natBlt_iff _ _).1 hb, fun i hi => (key i hi).1⟩, fun v hh l => by
        cases l with
        | ask i hi l => exact (key i hi).2 _ _ l⟩
end
end Go.Am
namespace Go.Am
def coef : Nat → Int → List Int
  | 0, _ => []
  | m + 1, q => dig q :: coef m (quo q)
def dot : List Int → List Int → Int
  | c :: cs, x :: xs => c * x + dot cs xs
  | _, _ => 0
theorem evC_dot : ∀ (ρ : List Int) (q : Int), evC ρ q = dot (coef ρ.length q) ρ
  | [], _ => rfl
  | x :: ρ, q => by
    show dig q * x + evC ρ (quo q) = dig q * x + dot (coef ρ.length (quo q)) ρ
    rw [evC_dot ρ]
theorem dec_eq {ρ : List Int} {n c : Int} {cs : List Int} {m : Nat} (hm : ρ.length = m) (hd : dig n = c) (hc : coef m (quo n) = cs) : dec ρ n = c + dot cs ρ := by
  rw [dec, evC_dot, hm, hd, hc]
theorem heapOf_D {f : Int → Int} (hf : ∀ n, pln n = true → f n = n) : ∀ (bs : List (Option (List V))) (n : Nat), (∀ cs, some cs ∈ bs → V.pls cs = true) → (heapOf n bs).mapT (Blk.D f) = heapOf n bs
  | [], _, _ => rfl
  | none :: r, n, h => heapOf_D hf r (n + 1) fun cs hc => h cs (List.mem_cons_of_mem _ hc)
  | some cs :: r, n, h => by
    show ((heapOf (n + 1) r).set (P.of n) (.cells cs true)).mapT (Blk.D f) = (heapOf (n + 1) r).set (P.of n) (.cells cs true)
    rw [← T.set_mapT, heapOf_D hf r (n + 1) fun cs hc => h cs (List.mem_cons_of_mem _ hc)]
    show T.set (heapOf (n + 1) r) (P.of n) (Blk.cells (cs.map (V.D f)) true) = _
    rw [map_pl hf (h cs List.mem_cons_self)]
theorem H0_D {ρ : List Int} {ng : Nat} {bs : List (Option (List V))} (h : ∀ cs, some cs ∈ bs → V.pls cs = true) : (H0 ng bs).D (dec ρ) = H0 ng bs := by
  show (⟨(heapOf ng bs).mapT (Blk.D (dec ρ)), _⟩ : H) = _
  rw [heapOf_D hfρ bs ng h]; rfl
theorem sx_all {ρ : List Int} {S : SP} (o : SPok ρ S) {fns : T AF} (hp : allT AF.pl fns = true) {loops d : Nat} {p : P} {vs ws : List V} {bs : List (Option (List V))} (hb : ∀ cs, some cs ∈ bs → V.pls cs = true) (hv : vs.map (V.D (dec ρ)) = ws)
    (hr : (callS S fns loops d p vs (H0 0 bs)).all = true) : AllTrue (call fns loops d p ws (H0 0 bs)) := by
  have h := call_le o hp loops d p vs (H0 0 bs)
  rw [hv, H0_D hb] at h
  exact leaf_le h hr
end Go.Am
