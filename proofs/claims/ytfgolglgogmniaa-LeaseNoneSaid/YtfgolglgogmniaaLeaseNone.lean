/- LeaseNone: the machine run with an open input ends with true. No condition. -/
import Derived.Test.YtfgolglgogmniaaEach
import Derived.Test.YtfgolglgogmniaaRows
namespace Go.Am
open Go.Proofs
set_option maxRecDepth 100000
theorem none_true (n : Int) : (call fnt 1000 100 p7 [.int .i64 n] (H0 Try.prog.globals.size [])).all = true := by
  kernel_rfl
end Go.Am
namespace Go.Proofs.Ytfgolglgogmniaa
open Go.ChangeShapes Go.WideShapes Go.ChangeAt Go.RowKit Go.Am

theorem Try.own : ownKnob Try.prog.godebug = none := by kernel_rfl
theorem tab : tabOk Try.prog = true := by kernel_rfl

set_option maxRecDepth 100000 in
theorem leaseNone_lifted (os : Os) (started : os.Started) (H : Type) (enc : TypeId × Value → H) :
    ReturnsInHanded {} Try.checked os 7 .any (Rows.leaseNoneSpec.pre6 enc Try.prog Try.f7 Rows.leaseNoneRow.domain false) (Rows.leaseNoneSpec.post enc Try.prog Try.f7 false true false false) := by
  refine returnsInHanded_of_change (C := Try.checked) Try.own started (by kernel_rfl) Try.func7
    (ChangeSpec.witness6 (enc := enc) (C := Try.checked) false ⟨#[], #[.int .i64 0], []⟩ 8 (by kernel_rfl) (by kernel_rfl) (by kernel_rfl) (by kernel_rfl)) ?_
  intro W base args ds gs before hval0 hW hcnd _
  have hval : ∀ (j : Nat) t v, Try.f7.params[j]? = some t → args[j]? = some v → Value.okWide Try.prog W .any base t v := hval0
  have hW' := hW
  obtain ⟨p, q, hA0, hV, rfl, hfz, hnd⟩ := hW
  have hA : DataW.TrodAll enc Try.prog W 0 (fun _ => true) true Try.f7.params.toList args.toList ds p := hA0
  rw [Try.params7] at hA hval
  obtain ⟨v0, d0, rfl, rfl, h0⟩ := trodAll_one hA
  obtain ⟨a, rfl, rfl, rfl, wa⟩ := open_int (k := .i64) (t := 3) (by kernel_rfl) (hval 0 _ v0 rfl rfl) h0
  refine (law_calls (p := p7) (cf_ok 1000 100) Try.func7 (by kernel_rfl) (of_decide_eq_true (by kernel_rfl)) (Given.none _ W) ?_ (R.all_spec (none_true a))).mono fun e W' ⟨he, ho⟩ => ?_
  · exact VRs.cons (.int _ _) (VRs.nil _)
  subst he
  exact ⟨_, rfl, law_post tab (by kernel_rfl) (tb := 4) (by kernel_rfl) (by kernel_rfl) rfl rfl hW' ho⟩

theorem leaseNone_holds : Rows.LeaseNoneSaid :=
  OpenClaim.holds_of_wide 7 Try.f7 rfl rfl rfl rfl rfl rfl rfl ⟨rfl, rfl, rfl, rfl, rfl⟩ rfl rfl rfl rfl rfl (by kernel_rfl) Try.func7 (by kernel_rfl)
    (of_decide_eq_true (by kernel_rfl)) (by unfold Func.isWrapper; first | (rw [if_pos (by decide +kernel)]; kernel_rfl) | (rw [if_neg (by decide +kernel)]; exact ⟨rfl, rfl⟩))
    (fun os started H enc _ => leaseNone_lifted os started H enc)
end Go.Proofs.Ytfgolglgogmniaa
