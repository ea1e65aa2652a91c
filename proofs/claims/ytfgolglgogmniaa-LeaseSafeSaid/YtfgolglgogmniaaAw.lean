/- The example with which each statement begins: it holds, and what is given stays. -/
import Derived.Test.YtfgolglgogmniaaIssue
import Derived.Test.YtfgolglgogmniaaAmF
import Derived.Test.YtfgolglgogmniaaEach
import Derived.KernelRfl
namespace Go.Am
open Go.Proofs
set_option maxRecDepth 100000
structure Awake (h00 h : H) (ps : List (P × Option (List V))) : Prop where
  run : call fnt 100000 19 p8 [] h00 = .ok (.bool true) h
  run2 : Ens (call fnt 100000 19 p8 [] h) fun v _ => v = .bool true
  get : ∀ q ∈ ps, ∀ cs, q.2 = some cs → h.get q.1 = some (.cells cs true)
  lt : ∀ q ∈ ps, q.1.num < h.next.num
theorem ens_all {r : R} (h : r.all = true) : Ens r fun v _ => v = .bool true := ⟨(R.all_spec h).1, (R.all_spec h).2⟩
theorem awake2 (o1 o2 : Option (List V)) : ∃ h, Awake (H0 0 [o1, o2]) h [(P.of 0, o1), (P.of 1, o2)] := by
  refine ⟨R.heap (call fnt 100000 19 p8 [] (H0 0 [o1, o2])), ?_⟩
  have lt : ∀ n : Nat, Nat.ble 2 n = true → ∀ q ∈ [(P.of 0, o1), (P.of 1, o2)], q.1.num < n := by
    intro n hn q hq
    have := (natBle_iff _ _).1 hn
    rcases List.mem_cons.1 hq with rfl | hq
    · show (P.of 0).num < n; rw [P.num_of]; omega
    · rw [List.mem_singleton.1 hq]; show (P.of 1).num < n; rw [P.num_of]; omega
  rcases o1 with _ | c1 <;> rcases o2 with _ | c2
  · refine ⟨by kernel_rfl, ens_all (by kernel_rfl), ?_, lt _ (by kernel_rfl)⟩
    intro q hq cs hcs
    rcases List.mem_cons.1 hq with rfl | hq
    · cases hcs
    · rw [List.mem_singleton.1 hq] at hcs; cases hcs
  · refine ⟨by kernel_rfl, ens_all (by kernel_rfl), ?_, lt _ (by kernel_rfl)⟩
    intro q hq cs hcs
    rcases List.mem_cons.1 hq with rfl | hq
    · cases hcs
    · obtain rfl := List.mem_singleton.1 hq; obtain rfl := Option.some.inj hcs; kernel_rfl
  · refine ⟨by kernel_rfl, ens_all (by kernel_rfl), ?_, lt _ (by kernel_rfl)⟩
    intro q hq cs hcs
    rcases List.mem_cons.1 hq with rfl | hq
    · obtain rfl := Option.some.inj hcs; kernel_rfl
    · rw [List.mem_singleton.1 hq] at hcs; cases hcs
  · refine ⟨by kernel_rfl, ens_all (by kernel_rfl), ?_, lt _ (by kernel_rfl)⟩
    intro q hq cs hcs
    rcases List.mem_cons.1 hq with rfl | hq
    · obtain rfl := Option.some.inj hcs; kernel_rfl
    · obtain rfl := List.mem_singleton.1 hq; obtain rfl := Option.some.inj hcs; kernel_rfl
theorem awake1 (o1 : Option (List V)) : ∃ h, Awake (H0 0 [o1]) h [(P.of 0, o1)] := by
  refine ⟨R.heap (call fnt 100000 19 p8 [] (H0 0 [o1])), ?_⟩
  have lt : ∀ n : Nat, Nat.ble 1 n = true → ∀ q ∈ [(P.of 0, o1)], q.1.num < n := by
    intro n hn q hq
    have := (natBle_iff _ _).1 hn
    rw [List.mem_singleton.1 hq]; show (P.of 0).num < n; rw [P.num_of]; omega
  rcases o1 with _ | c1
  · refine ⟨by kernel_rfl, ens_all (by kernel_rfl), ?_, lt _ (by kernel_rfl)⟩
    intro q hq cs hcs
    rw [List.mem_singleton.1 hq] at hcs; cases hcs
  · refine ⟨by kernel_rfl, ens_all (by kernel_rfl), ?_, lt _ (by kernel_rfl)⟩
    intro q hq cs hcs
    obtain rfl := List.mem_singleton.1 hq; obtain rfl := Option.some.inj hcs; kernel_rfl
end Go.Am
namespace Go.Am
open Go.Proofs
set_option maxRecDepth 100000
structure AwakeE (o1 : Option (List V)) (u0 u1 : Int) (h : H) : Prop where
  run : call fnt 100000 19 p8 [] ((H0 0 [o1]).alloc (.cells [.int .u8 u0, .int .u8 u1] false)) = .ok (.bool true) h
  run2 : Ens (call fnt 100000 19 p8 [] h) fun v _ => v = .bool true
  get : ∀ cs, o1 = some cs → h.get (P.of 0) = some (.cells cs true)
  arr : h.get (P.of 1) = some (.cells [.int .u8 u0, .int .u8 u1] false)
  lt : 2 ≤ h.next.num
theorem awakeE (o1 : Option (List V)) (u0 u1 : Int) : ∃ h, AwakeE o1 u0 u1 h := by
  refine ⟨R.heap (call fnt 100000 19 p8 [] ((H0 0 [o1]).alloc (.cells [.int .u8 u0, .int .u8 u1] false))), ?_⟩
  rcases o1 with _ | c1
  · exact ⟨by kernel_rfl, ens_all (by kernel_rfl), fun cs h => (by cases h), by kernel_rfl, (natBle_iff _ _).1 (by kernel_rfl)⟩
  · exact ⟨by kernel_rfl, ens_all (by kernel_rfl), fun cs h => (by obtain rfl := Option.some.inj h; kernel_rfl), by kernel_rfl, (natBle_iff _ _).1 (by kernel_rfl)⟩
end Go.Am
namespace Go.Am
open Go.Proofs
set_option maxRecDepth 100000
structure AwakeS (o1 : Option (List V)) (ppm u0 u1 : Int) (h : H) : Prop where
  run : call fnt 100000 19 p8 [] ((H0 0 [o1]).alloc (.cells [.int .i64 ppm, .int .u32 u0, .int .u32 u1] false)) = .ok (.bool true) h
  run2 : Ens (call fnt 100000 19 p8 [] h) fun v _ => v = .bool true
  get : ∀ cs, o1 = some cs → h.get (P.of 0) = some (.cells cs true)
  arr : h.get (P.of 1) = some (.cells [.int .i64 ppm, .int .u32 u0, .int .u32 u1] false)
  lt : 2 ≤ h.next.num
theorem awakeS (o1 : Option (List V)) (ppm u0 u1 : Int) : ∃ h, AwakeS o1 ppm u0 u1 h := by
  refine ⟨R.heap (call fnt 100000 19 p8 [] ((H0 0 [o1]).alloc (.cells [.int .i64 ppm, .int .u32 u0, .int .u32 u1] false))), ?_⟩
  rcases o1 with _ | c1
  · exact ⟨by kernel_rfl, ens_all (by kernel_rfl), fun cs h => (by cases h), by kernel_rfl, (natBle_iff _ _).1 (by kernel_rfl)⟩
  · exact ⟨by kernel_rfl, ens_all (by kernel_rfl), fun cs h => (by obtain rfl := Option.some.inj h; kernel_rfl), by kernel_rfl, (natBle_iff _ _).1 (by kernel_rfl)⟩
end Go.Am
