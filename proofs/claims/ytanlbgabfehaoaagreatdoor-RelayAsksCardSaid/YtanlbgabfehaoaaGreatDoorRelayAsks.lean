/- RelayAsks holds: whatever the input, the law answers true and the arguments stay; the listed variables hold at the call what the program's text lays (the card ties them). -/
import Derived.Test.YtanlbgabfehaoaaGreatDoorAsksS
import Derived.Test.YtanlbgabfehaoaaGreatDoorAmF
import Derived.Test.YtanlbgabfehaoaaGreatDoorTie
import Derived.Test.YtanlbgabfehaoaaGreatDoorCards
import Derived.Lay
import Derived.LaidMore
import Derived.SevenTiedAt
import Derived.Stop.Joined
namespace Go.Proofs.YtanlbgabfehaoaaGreatDoor
open Go.ChangeShapes Go.WideShapes Go.ChangeAt Go.RowKit Go.Am

theorem ownA : ownKnob Tryz.prog.godebug = none := by kernel_rfl
theorem tabA : tabOk Tryz.prog = true := by kernel_rfl
theorem ngA : Tryz.prog.globals.size = 9 := by kernel_rfl
def isStruct : Option TypeDesc → Bool
  | some (.struct _) => true
  | _ => false
theorem open_struct {P : Program} {α : Type} {enc : TypeId × Value → α} {W : World} {base : Nat} {t : TypeId} {v : Value} {d : DataW α} {ps : List MemPlace} {sh : List IntKind} {k : Nat} (h0 : isStruct (P.underlying t) = true) (hs : shapeOf P k t = some sh) (hc : P.cellsOf t = sh.length) (hval : Value.okWide P W .any base t v) (hd : DataW.Trod enc P W 0 (fun _ => true) true t v d ps) :
    ∃ cs : Array Value, v = .agg cs ∧ Ints sh cs.toList := by
  have hv : ∃ cs, v = .agg cs := by
    have h2 := hval
    unfold Value.okWide at h2
    cases h1 : P.underlying t with
    | none => rw [h1] at h0; cases h0
    | some u =>
      rw [h1] at h0 h2
      cases u <;> first | (cases h0; done) | (cases v <;> first | exact ⟨_, rfl⟩ | (simp at h2))
  obtain ⟨cs, rfl⟩ := hv
  obtain ⟨fuel, hd⟩ := hd
  exact ⟨cs, rfl, shape_ok (P := P) k t sh hs hc fuel _ _ hd⟩
theorem ints4 {cs : Array Value} (hi : Ints [.u8, .u8, .u16, .i64] cs.toList) : ∃ a b c n, cs = #[.int .u8 a, .int .u8 b, .int .u16 c, .int .i64 n] ∧ (0 ≤ a ∧ a < 256) ∧ (0 ≤ b ∧ b < 256) ∧ (0 ≤ c ∧ c < 65536) ∧ (-9223372036854775808 ≤ n ∧ n < 9223372036854775808) := by
  obtain ⟨l⟩ := cs
  match l, hi with
  | [x, y, z, t], hi =>
    obtain ⟨a, rfl, ha⟩ := hi.2 0 .u8 x rfl rfl
    obtain ⟨b, rfl, hb⟩ := hi.2 1 .u8 y rfl rfl
    obtain ⟨c, rfl, hc⟩ := hi.2 2 .u16 z rfl rfl
    obtain ⟨n, rfl, hn⟩ := hi.2 3 .i64 t rfl rfl
    exact ⟨a, b, c, n, rfl, wf_u8 ha, wf_u8 hb, wf_u16 hc, wf_i64 hn⟩
  | [], hi => exact absurd hi.1 (by simp)
  | [x], hi => exact absurd hi.1 (by simp)
  | [x, y], hi => exact absurd hi.1 (by simp)
  | [x, y, z], hi => exact absurd hi.1 (by simp)
  | x :: y :: z :: t :: u :: r, hi => exact absurd hi.1 (by simp)

theorem gvA {W : World} (hL : laidMetH Tryz.prog Rows.relayAsksRow.laid W) : ∃ ls, Given 0 ls gbs W ∧ ∀ i, i < 9 → ∃ l, ls[i]? = some l ∧ l.g = i ∧ l.d = 0 := by
  rw [MakeChecks.laidMetH_plain _ _ _ (by kernel_rfl)] at hL
  obtain ⟨l0, a1, a2, o0, a3, a4⟩ := arr_laid hL (name := "quayside/purge.words") (ls := wordsL) (g := 0) (t := 239) (e := 9) (n := 4) (.tail _ (.tail _ (.tail _ (.tail _ (.tail _ (.tail _ (.head _))))))) (by kernel_rfl) (by kernel_rfl) (by kernel_rfl) (by kernel_rfl) (by kernel_rfl) rfl
  obtain ⟨l4, b1, b2, o4, b3, b4⟩ := arr_laid hL (name := "internal/strconv.uint64pow10") (ls := powsL) (g := 4) (t := 311) (e := 233) (n := 20) (.tail _ (.tail _ (.head _))) (by kernel_rfl) (by kernel_rfl) (by kernel_rfl) (by kernel_rfl) (by kernel_rfl) rfl
  refine ⟨[l0, ⟨1, 0, 0, 0⟩, ⟨2, 0, 0, 0⟩, ⟨3, 0, 0, 0⟩, l4, ⟨5, 0, 0, 0⟩, ⟨6, 0, 0, 0⟩, ⟨7, 0, 0, 0⟩, ⟨8, 0, 0, 0⟩], ⟨rfl, ?_⟩, ?_⟩
  · intro i l cs e1 e2
    match i, e1, e2 with
    | 0, e1, e2 =>
      obtain rfl := Option.some.inj e1
      obtain rfl := Option.some.inj (Option.some.inj e2)
      exact ⟨o0, a3, a4 _⟩
    | 4, e1, e2 =>
      obtain rfl := Option.some.inj e1
      obtain rfl := Option.some.inj (Option.some.inj e2)
      exact ⟨o4, b3, b4 _⟩
    | 1, _, e2 => cases e2
    | 2, _, e2 => cases e2
    | 3, _, e2 => cases e2
    | 5, _, e2 => cases e2
    | 6, _, e2 => cases e2
    | 7, _, e2 => cases e2
    | 8, _, e2 => cases e2
    | i + 9, e1, _ => simp at e1
  · intro i hi
    match i, hi with
    | 0, _ => exact ⟨_, rfl, a1, a2⟩
    | 1, _ => exact ⟨_, rfl, rfl, rfl⟩
    | 2, _ => exact ⟨_, rfl, rfl, rfl⟩
    | 3, _ => exact ⟨_, rfl, rfl, rfl⟩
    | 4, _ => exact ⟨_, rfl, b1, b2⟩
    | 5, _ => exact ⟨_, rfl, rfl, rfl⟩
    | 6, _ => exact ⟨_, rfl, rfl, rfl⟩
    | 7, _ => exact ⟨_, rfl, rfl, rfl⟩
    | 8, _ => exact ⟨_, rfl, rfl, rfl⟩
    | i + 9, hi => omega

set_option maxRecDepth 100000 in
theorem relayAsks_lifted (os : Os) (started : os.Started) (H : Type) (enc : TypeId × Value → H) :
    ReturnsInHanded {} Tryz.checked os 5 .any (fun w args => (Rows.relayAsksSpec.pre enc Tryz.prog Tryz.f5 Rows.relayAsksRow.domain false w args ∧ laidMetH Tryz.prog Rows.relayAsksRow.laid w) ∧ sizedMet enc Tryz.prog Tryz.f5 (OpenSpec.ofChange Rows.relayAsksSpec) false w args)
      (Rows.relayAsksSpec.post enc Tryz.prog Tryz.f5 false true false false) := by
  refine returnsInHanded_of_change_and (C := Tryz.checked) (X := fun w _ => laidMetH Tryz.prog Rows.relayAsksRow.laid w) (fun _ _ _ hh h => h.of_heap hh) ownA started (by kernel_rfl) Tryz.func5
    (ChangeSpec.witness_shaped (enc := enc) (C := Tryz.checked) (os := os) (X := fun w _ => laidMetH Tryz.prog Rows.relayAsksRow.laid w) false (World.laidAll Tryz.prog os Rows.relayAsksRow.laid) #[.agg #[.int .u8 0, .int .u8 0, .int .u16 0, .int .i64 0], .int .u8 0] 8 (World.laidAll_os _ _ _)
      (World.shaped_of_ZipB (by kernel_rfl) (by kernel_rfl)) (by kernel_rfl) (by kernel_rfl) (by kernel_rfl)
      (by rw [MakeChecks.laidMetH_plain _ _ _ (by kernel_rfl)]; exact laidMet_laidAll _ (by kernel_rfl) (by kernel_rfl))) ?_
  intro W base args ds gs before hval0 hW hcnd _ hL _
  have hval : ∀ (j : Nat) t v, Tryz.f5.params[j]? = some t → args[j]? = some v → Value.okWide Tryz.prog W .any base t v := hval0
  have hW' := hW
  obtain ⟨p, q, hA0, hV, rfl, hfz, hnd⟩ := hW
  have hA : DataW.TrodAll enc Tryz.prog W 0 (fun _ => true) true Tryz.f5.params.toList args.toList ds p := hA0
  rw [Tryz.params5] at hA hval
  obtain ⟨v0, vs0, d0, ds0, q0, r0, hargs, rfl, rfl, h0, hA⟩ := trodAll_cons hA
  obtain ⟨v1, vs1, d1, ds1, q1, r1, rfl, rfl, rfl, h1, hA⟩ := trodAll_cons hA
  obtain ⟨rfl, rfl, rfl⟩ := trodAll_nil hA
  obtain rfl : args = #[v0, v1] := by cases args; simp_all
  obtain ⟨cs0, rfl, hi0⟩ := open_struct (P := Tryz.prog) (t := 24) (sh := [.u8, .u8, .u16, .i64]) (k := 4) (by kernel_rfl) (by kernel_rfl) (by kernel_rfl) (hval 0 24 v0 rfl rfl) h0
  obtain ⟨many0, win0, len0, ppm, rfl, hm0, hw0, hl0, hp0⟩ := ints4 hi0
  obtain ⟨many, rfl, rfl, rfl, wm⟩ := open_int (k := .u8) (t := 5) (by kernel_rfl) (hval 1 5 v1 rfl rfl) h1
  have hcf := cf_ok 1000 50
  rw [ngA] at hcf
  obtain ⟨ls, g, hng⟩ := gvA hL
  refine (law_calls2 (p := p5) hcf Tryz.func5 (by kernel_rfl) (of_decide_eq_true (by kernel_rfl)) g hng ?_ (asks_ok hm0 hw0 hl0 hp0 (wf_u8 wm))).mono fun e W' ⟨he, ho⟩ => ?_
  · refine VRs.cons ?_ (VRs.cons (.int _ _) (VRs.nil _))
    refine VR.of_agg ⟨VRs.cons (.int _ _) (VRs.cons (.int _ _) (VRs.cons (.int _ _) (VRs.cons (.int _ _) (VRs.nil _)))), ?_⟩
    intro v hv
    simp at hv
    rcases hv with rfl | rfl | rfl | rfl <;> rfl
  subst he
  exact ⟨_, rfl, law_post tabA (by kernel_rfl) (tb := 4) (by kernel_rfl) (by kernel_rfl) rfl rfl hW' ho⟩

theorem relayAsks_row : Rows.RelayAsksSaid :=
  OpenClaim.holds_of_wide 5 Tryz.f5 rfl rfl rfl rfl rfl rfl rfl ⟨rfl, rfl, rfl, rfl, rfl⟩ rfl rfl rfl rfl rfl (by kernel_rfl) Tryz.func5 (by kernel_rfl)
    (of_decide_eq_true (by kernel_rfl)) (by unfold Func.isWrapper; first | (rw [if_pos (by decide +kernel)]; kernel_rfl) | (rw [if_neg (by decide +kernel)]; exact ⟨rfl, rfl⟩))
    (fun os started H enc _ => relayAsks_lifted os started H enc)

theorem relayAsks_holds : Rows.RelayAsksCardSaid :=
  Claim7.holds_tied_plain_at .later [] [.data, .data, .data, .data, .sentinel, .sentinel, .widerDeep, .pinned] true (true, "0fb8dc9913b05273ba88ddf8a9d9e2c8fc22b65c890027b1ca9a8d180647dba7") true relayAsks_row (fun _ h => by cases h) (by kernel_rfl) (fun _ h => by cases h) relayAsks_row_tie rfl ⟨rfl, rfl⟩ (by kernel_rfl) rfl
    (fun f fn hf hfn => by
      obtain rfl : f = 5 := Option.some.inj ((show Tryz.prog.funcNamed "quayside/quaysidelaw40.RelayAsks" = some 5 by kernel_rfl).symm.trans hf) |>.symm
      obtain rfl : fn = Tryz.f5 := (Option.some.inj (Tryz.func5.symm.trans hfn)).symm
      exact ⟨by kernel_rfl, fun j t ht => by
        rw [Tryz.params5] at ht
        have hm : t ∈ [24, 5] := by simpa using Array.mem_of_getElem? ht
        have hall : ([24, 5].all fun u => !Tryz.prog.wantsStandIn u) = true := by kernel_rfl
        exact (show Tryz.prog.wantsStandIn t = false by simpa using List.all_eq_true.1 hall t hm)⟩)
    (by kernel_rfl)
#print axioms relayAsks_holds
end Go.Proofs.YtanlbgabfehaoaaGreatDoor
