/- Each function of the program is what the machine has for it. -/
import Derived.Test.YtfgolglgogmniaaAmE
import Derived.Test.YtfgolglgogmniaaCode
import Derived.Test.YtfgolglgogmniaaProg
import Derived.KernelRfl
namespace Go.Am
open Go.Proofs
set_option maxRecDepth 100000
noncomputable def fnt : T AF := (.node (.node (.node (.node (.node (.node .nil (some af31) .nil) (some af15) .nil) (some af7) (.node .nil (some af23) .nil)) (some af3) (.node (.node .nil (some af19) .nil) (some af11) (.node .nil (some af27) .nil))) none (.node (.node (.node .nil (some af17) .nil) (some af9) (.node .nil (some af25) .nil)) (some af5) (.node (.node .nil (some af21) .nil) (some af13) (.node .nil (some af29) .nil)))) none (.node (.node (.node (.node (.node .nil (some af32) .nil) (some af16) .nil) (some af8) (.node .nil (some af24) .nil)) (some af4) (.node (.node .nil (some af20) .nil) (some af12) (.node .nil (some af28) .nil))) (some af2) (.node (.node (.node .nil (some af18) .nil) (some af10) (.node .nil (some af26) .nil)) (some af6) (.node (.node .nil (some af22) .nil) (some af14) (.node .nil (some af30) .nil)))))
theorem no {Q : AF → Prop} : ∀ a, (none : Option AF) = some a → Q a := fun a h => nomatch h
theorem is_2 : ∀ a, some af2 = some a → FnIs Try.prog Try.prog.globals.size p2 a := fun a h => by obtain rfl := Option.some.inj h; exact .inl ⟨Try.f2, Try.func2, by kernel_rfl⟩
theorem is_3 : ∀ a, some af3 = some a → FnIs Try.prog Try.prog.globals.size p3 a := fun a h => by obtain rfl := Option.some.inj h; exact .inl ⟨Try.f3, Try.func3, by kernel_rfl⟩
theorem is_4 : ∀ a, some af4 = some a → FnIs Try.prog Try.prog.globals.size p4 a := fun a h => by obtain rfl := Option.some.inj h; exact .inl ⟨Try.f4, Try.func4, by kernel_rfl⟩
theorem is_5 : ∀ a, some af5 = some a → FnIs Try.prog Try.prog.globals.size p5 a := fun a h => by obtain rfl := Option.some.inj h; exact .inl ⟨Try.f5, Try.func5, by kernel_rfl⟩
theorem is_6 : ∀ a, some af6 = some a → FnIs Try.prog Try.prog.globals.size p6 a := fun a h => by obtain rfl := Option.some.inj h; exact .inl ⟨Try.f6, Try.func6, by kernel_rfl⟩
theorem is_7 : ∀ a, some af7 = some a → FnIs Try.prog Try.prog.globals.size p7 a := fun a h => by obtain rfl := Option.some.inj h; exact .inl ⟨Try.f7, Try.func7, by kernel_rfl⟩
theorem is_8 : ∀ a, some af8 = some a → FnIs Try.prog Try.prog.globals.size p8 a := fun a h => by obtain rfl := Option.some.inj h; exact .inl ⟨Try.f8, Try.func8, by kernel_rfl⟩
theorem is_9 : ∀ a, some af9 = some a → FnIs Try.prog Try.prog.globals.size p9 a := fun a h => by obtain rfl := Option.some.inj h; exact .inl ⟨Try.f9, Try.func9, by kernel_rfl⟩
theorem is_10 : ∀ a, some af10 = some a → FnIs Try.prog Try.prog.globals.size p10 a := fun a h => by obtain rfl := Option.some.inj h; exact .inl ⟨Try.f10, Try.func10, by kernel_rfl⟩
theorem is_11 : ∀ a, some af11 = some a → FnIs Try.prog Try.prog.globals.size p11 a := fun a h => by obtain rfl := Option.some.inj h; exact .inl ⟨Try.f11, Try.func11, by kernel_rfl⟩
theorem is_12 : ∀ a, some af12 = some a → FnIs Try.prog Try.prog.globals.size p12 a := fun a h => by obtain rfl := Option.some.inj h; exact .inl ⟨Try.f12, Try.func12, by kernel_rfl⟩
theorem is_13 : ∀ a, some af13 = some a → FnIs Try.prog Try.prog.globals.size p13 a := fun a h => by obtain rfl := Option.some.inj h; exact .inl ⟨Try.f13, Try.func13, by kernel_rfl⟩
theorem is_14 : ∀ a, some af14 = some a → FnIs Try.prog Try.prog.globals.size p14 a := fun a h => by obtain rfl := Option.some.inj h; exact .inl ⟨Try.f14, Try.func14, by kernel_rfl⟩
theorem is_15 : ∀ a, some af15 = some a → FnIs Try.prog Try.prog.globals.size p15 a := fun a h => by obtain rfl := Option.some.inj h; exact .inl ⟨Try.f15, Try.func15, by kernel_rfl⟩
theorem is_16 : ∀ a, some af16 = some a → FnIs Try.prog Try.prog.globals.size p16 a := fun a h => by obtain rfl := Option.some.inj h; exact .inl ⟨Try.f16, Try.func16, by kernel_rfl⟩
theorem is_17 : ∀ a, some af17 = some a → FnIs Try.prog Try.prog.globals.size p17 a := fun a h => by obtain rfl := Option.some.inj h; exact .inl ⟨Try.f17, Try.func17, by kernel_rfl⟩
theorem is_18 : ∀ a, some af18 = some a → FnIs Try.prog Try.prog.globals.size p18 a := fun a h => by obtain rfl := Option.some.inj h; exact .inl ⟨Try.f18, Try.func18, by kernel_rfl⟩
theorem is_19 : ∀ a, some af19 = some a → FnIs Try.prog Try.prog.globals.size p19 a := fun a h => by obtain rfl := Option.some.inj h; exact .inl ⟨Try.f19, Try.func19, by kernel_rfl⟩
theorem is_20 : ∀ a, some af20 = some a → FnIs Try.prog Try.prog.globals.size p20 a := fun a h => by obtain rfl := Option.some.inj h; exact .inl ⟨Try.f20, Try.func20, by kernel_rfl⟩
theorem is_21 : ∀ a, some af21 = some a → FnIs Try.prog Try.prog.globals.size p21 a := fun a h => by obtain rfl := Option.some.inj h; exact .inl ⟨Try.f21, Try.func21, by kernel_rfl⟩
theorem is_22 : ∀ a, some af22 = some a → FnIs Try.prog Try.prog.globals.size p22 a := fun a h => by obtain rfl := Option.some.inj h; exact .inl ⟨Try.f22, Try.func22, by kernel_rfl⟩
theorem is_23 : ∀ a, some af23 = some a → FnIs Try.prog Try.prog.globals.size p23 a := fun a h => by obtain rfl := Option.some.inj h; exact .inl ⟨Try.f23, Try.func23, by kernel_rfl⟩
theorem is_24 : ∀ a, some af24 = some a → FnIs Try.prog Try.prog.globals.size p24 a := fun a h => by obtain rfl := Option.some.inj h; exact .inl ⟨Try.f24, Try.func24, by kernel_rfl⟩
theorem is_25 : ∀ a, some af25 = some a → FnIs Try.prog Try.prog.globals.size p25 a := fun a h => by obtain rfl := Option.some.inj h; exact .inl ⟨Try.f25, Try.func25, by kernel_rfl⟩
theorem is_26 : ∀ a, some af26 = some a → FnIs Try.prog Try.prog.globals.size p26 a := fun a h => by obtain rfl := Option.some.inj h; exact .inl ⟨Try.f26, Try.func26, by kernel_rfl⟩
theorem is_27 : ∀ a, some af27 = some a → FnIs Try.prog Try.prog.globals.size p27 a := fun a h => by obtain rfl := Option.some.inj h; exact .inl ⟨Try.f27, Try.func27, by kernel_rfl⟩
theorem is_28 : ∀ a, some af28 = some a → FnIs Try.prog Try.prog.globals.size p28 a := fun a h => by obtain rfl := Option.some.inj h; exact .inl ⟨Try.f28, Try.func28, by kernel_rfl⟩
theorem is_29 : ∀ a, some af29 = some a → FnIs Try.prog Try.prog.globals.size p29 a := fun a h => by obtain rfl := Option.some.inj h; exact .inl ⟨Try.f29, Try.func29, by kernel_rfl⟩
theorem is_30 : ∀ a, some af30 = some a → FnIs Try.prog Try.prog.globals.size p30 a := fun a h => by obtain rfl := Option.some.inj h; exact .inl ⟨Try.f30, Try.func30, by kernel_rfl⟩
theorem is_31 : ∀ a, some af31 = some a → FnIs Try.prog Try.prog.globals.size p31 a := fun a h => by obtain rfl := Option.some.inj h; exact .inl ⟨Try.f31, Try.func31, by kernel_rfl⟩
theorem is_32 : ∀ a, some af32 = some a → FnIs Try.prog Try.prog.globals.size p32 a := fun a h => by obtain rfl := Option.some.inj h; exact .inl ⟨Try.f32, Try.func32, by kernel_rfl⟩
theorem fnt_all : T.All (FnIs Try.prog Try.prog.globals.size) fnt id := ⟨⟨⟨⟨⟨⟨trivial, (is_31), trivial⟩, (is_15), trivial⟩, (is_7), ⟨trivial, (is_23), trivial⟩⟩, (is_3), ⟨⟨trivial, (is_19), trivial⟩, (is_11), ⟨trivial, (is_27), trivial⟩⟩⟩, (no), ⟨⟨⟨trivial, (is_17), trivial⟩, (is_9), ⟨trivial, (is_25), trivial⟩⟩, (is_5), ⟨⟨trivial, (is_21), trivial⟩, (is_13), ⟨trivial, (is_29), trivial⟩⟩⟩⟩, (no), ⟨⟨⟨⟨⟨trivial, (is_32), trivial⟩, (is_16), trivial⟩, (is_8), ⟨trivial, (is_24), trivial⟩⟩, (is_4), ⟨⟨trivial, (is_20), trivial⟩, (is_12), ⟨trivial, (is_28), trivial⟩⟩⟩, (is_2), ⟨⟨⟨trivial, (is_18), trivial⟩, (is_10), ⟨trivial, (is_26), trivial⟩⟩, (is_6), ⟨⟨trivial, (is_22), trivial⟩, (is_14), ⟨trivial, (is_30), trivial⟩⟩⟩⟩⟩
theorem cf_ok (loops d : Nat) : CfOK Try.prog Try.prog.globals.size (call fnt loops d) := fns_ok fnt_all d
end Go.Am
