/- RelayAsks: what is known of the numbers is so, whatever the input. -/
import Derived.Test.YtanlbgabfehaoaaGreatDoorAsks
import Derived.Test.YtanlbgabfehaoaaGreatDoorAsksA
import Derived.Test.YtanlbgabfehaoaaGreatDoorAsksB
import Derived.Test.YtanlbgabfehaoaaGreatDoorAsksC
import Derived.Test.YtanlbgabfehaoaaGreatDoorAsksD
namespace Go.Am
set_option maxRecDepth 100000
section
variable (many0 win0 len0 ppm many : Int)
def aL : Int := len0 % 2000
def aV : Int := win0 % 12
def aA : Int := min ppm 100000
def aP : Int := max 0 (aA ppm)
def aM1 : Int := (4 + aL len0) * (1000000 - aP ppm)
def aH : Int := aM1 len0 ppm / 1000000
def aQ : Int := aH len0 ppm / 4
def aT : Int := max 1 (aQ len0 ppm)
def aM2 : Int := (3 + aL len0) * (1000000 + aP ppm)
def aW : Int := (999999 + aM2 len0 ppm) / 1000000
def rhoA : List Int := [aT len0 ppm, aW len0 ppm, aL len0, aV win0, aP ppm, aQ len0 ppm, aH len0 ppm, aM1 len0 ppm, aM2 len0 ppm, aA ppm, ppm, win0, len0, many0, many]
end
theorem mul_bnd {a b A A' B B' : Int} (h0 : 0 ≤ A) (h1 : A ≤ a) (h2 : a ≤ A') (h3 : 0 ≤ B) (h4 : B ≤ b) (h5 : b ≤ B') : A * B ≤ a * b ∧ a * b ≤ A' * B' :=
  ⟨Int.mul_le_mul h1 h4 h3 (by omega), Int.mul_le_mul h2 h5 (by omega) (by omega)⟩
theorem arI_mul {a b r : Int} (e : a * b = r) (h1 : -9223372036854775808 ≤ r) (h2 : r ≤ 9223372036854775807) (h : H) : arI .mul .i64 a b h = .ok (.int .i64 r) h := by
  show R.ok (.int .i64 (wrapQ .i64 (Int.mul a b))) h = _
  rw [show Int.mul a b = a * b from rfl, e, wrapQ_in (k := .i64) h1 h2]
theorem arI_quo {a b r : Int} (h0 : 0 ≤ a) (hb : 0 < b) (e : a / b = r) (h1 : -9223372036854775808 ≤ r) (h2 : r ≤ 9223372036854775807) (h : H) : arI .quo .i64 a b h = .ok (.int .i64 r) h := by
  show cond (intEq b 0) R.no (R.ok (.int .i64 (wrapQ .i64 (Int.tdiv a b))) h) = _
  have hb0 : intEq b 0 = false := by
    cases hh : intEq b 0 with
    | false => rfl
    | true => have := (intEq_iff _ _).1 hh; omega
  rw [hb0, cond_false, Int.tdiv_eq_ediv_of_nonneg h0, e, wrapQ_in (k := .i64) h1 h2]
theorem arI_rem {k : IntKind} {a b r : Int} (h0 : 0 ≤ a) (hb : 0 < b) (e : a % b = r) (h : H) : arI .rem k a b h = .ok (.int k r) h := by
  show cond (intEq b 0) R.no (R.ok (.int k (Int.tmod a b)) h) = _
  have hb0 : intEq b 0 = false := by
    cases hh : intEq b 0 with
    | false => rfl
    | true => have := (intEq_iff _ _).1 hh; omega
  rw [hb0, cond_false, Int.tmod_eq_emod_of_nonneg h0, e]
section
variable {many0 win0 len0 ppm many : Int} (hm0 : 0 ≤ many0 ∧ many0 < 256) (hw0 : 0 ≤ win0 ∧ win0 < 256) (hl0 : 0 ≤ len0 ∧ len0 < 65536) (hp0 : -9223372036854775808 ≤ ppm ∧ ppm < 9223372036854775808) (hm : 0 ≤ many ∧ many < 256)
theorem aL_b : 0 ≤ aL len0 ∧ aL len0 ≤ 1999 := by unfold aL; omega
theorem aP_b : 0 ≤ aP ppm ∧ aP ppm ≤ 100000 := by unfold aP aA; omega
theorem aM1_b : 3600000 ≤ aM1 len0 ppm ∧ aM1 len0 ppm ≤ 2003000000 := by
  have h1 := aL_b (len0 := len0)
  have h2 := aP_b (ppm := ppm)
  have := mul_bnd (a := 4 + aL len0) (b := 1000000 - aP ppm) (A := 4) (A' := 2003) (B := 900000) (B' := 1000000) (by omega) (by omega) (by omega) (by omega) (by omega) (by omega)
  unfold aM1; omega
theorem aM2_b : 3000000 ≤ aM2 len0 ppm ∧ aM2 len0 ppm ≤ 2202200000 := by
  have h1 := aL_b (len0 := len0)
  have h2 := aP_b (ppm := ppm)
  have := mul_bnd (a := 3 + aL len0) (b := 1000000 + aP ppm) (A := 3) (A' := 2002) (B := 1000000) (B' := 1100000) (by omega) (by omega) (by omega) (by omega) (by omega) (by omega)
  unfold aM2; omega
theorem aH_b : 3 ≤ aH len0 ppm ∧ aH len0 ppm ≤ 2003 := by
  have := aM1_b (len0 := len0) (ppm := ppm)
  unfold aH; omega
theorem aQ_b : 0 ≤ aQ len0 ppm ∧ aQ len0 ppm ≤ 500 := by
  have := aH_b (len0 := len0) (ppm := ppm)
  unfold aQ; omega
theorem aT_b : 1 ≤ aT len0 ppm ∧ aT len0 ppm ≤ 500 := by
  have := aQ_b (len0 := len0) (ppm := ppm)
  unfold aT; omega
theorem aW_b : 3 ≤ aW len0 ppm ∧ aW len0 ppm ≤ 2203 := by
  have := aM2_b (len0 := len0) (ppm := ppm)
  unfold aW; omega
include hm0 hw0 hl0 hp0 hm
theorem sa_ok {c f : Int} (hc : many % 20 = c) (hcp : pln c = true) (hfc : okC 15 f = true) (hff : 0 ≤ dec (rhoA many0 win0 len0 ppm many) f) : SPok (rhoA many0 win0 len0 ppm many) (SA c f) := by
  have b1 := aL_b (len0 := len0)
  have b2 := aP_b (ppm := ppm)
  have b3 := aM1_b (len0 := len0) (ppm := ppm)
  have b4 := aM2_b (len0 := len0) (ppm := ppm)
  have b5 := aH_b (len0 := len0) (ppm := ppm)
  have b6 := aQ_b (len0 := len0) (ppm := ppm)
  have b7 := aT_b (len0 := len0) (ppm := ppm)
  have b8 := aW_b (len0 := len0) (ppm := ppm)
  have hlen : (rhoA many0 win0 len0 ppm many).length = 15 := rfl
  have d0 : dec (rhoA many0 win0 len0 ppm many) (xv 0) = aT len0 ppm := by rw [dec_eq hlen (c := 0) (cs := [1, 0, 0, 0, 0, 0, 0, 0, 0, 0, 0, 0, 0, 0, 0]) (by kernel_rfl) (by kernel_rfl)]; simp only [dot, rhoA]; omega
  have d1 : dec (rhoA many0 win0 len0 ppm many) (xv 1) = aW len0 ppm := by rw [dec_eq hlen (c := 0) (cs := [0, 1, 0, 0, 0, 0, 0, 0, 0, 0, 0, 0, 0, 0, 0]) (by kernel_rfl) (by kernel_rfl)]; simp only [dot, rhoA]; omega
  have d2 : dec (rhoA many0 win0 len0 ppm many) (xv 2) = aL len0 := by rw [dec_eq hlen (c := 0) (cs := [0, 0, 1, 0, 0, 0, 0, 0, 0, 0, 0, 0, 0, 0, 0]) (by kernel_rfl) (by kernel_rfl)]; simp only [dot, rhoA]; omega
  have d3 : dec (rhoA many0 win0 len0 ppm many) (xv 3) = aV win0 := by rw [dec_eq hlen (c := 0) (cs := [0, 0, 0, 1, 0, 0, 0, 0, 0, 0, 0, 0, 0, 0, 0]) (by kernel_rfl) (by kernel_rfl)]; simp only [dot, rhoA]; omega
  have d4 : dec (rhoA many0 win0 len0 ppm many) (xv 4) = aP ppm := by rw [dec_eq hlen (c := 0) (cs := [0, 0, 0, 0, 1, 0, 0, 0, 0, 0, 0, 0, 0, 0, 0]) (by kernel_rfl) (by kernel_rfl)]; simp only [dot, rhoA]; omega
  have d5 : dec (rhoA many0 win0 len0 ppm many) (xv 5) = aQ len0 ppm := by rw [dec_eq hlen (c := 0) (cs := [0, 0, 0, 0, 0, 1, 0, 0, 0, 0, 0, 0, 0, 0, 0]) (by kernel_rfl) (by kernel_rfl)]; simp only [dot, rhoA]; omega
  have d6 : dec (rhoA many0 win0 len0 ppm many) (xv 6) = aH len0 ppm := by rw [dec_eq hlen (c := 0) (cs := [0, 0, 0, 0, 0, 0, 1, 0, 0, 0, 0, 0, 0, 0, 0]) (by kernel_rfl) (by kernel_rfl)]; simp only [dot, rhoA]; omega
  have d7 : dec (rhoA many0 win0 len0 ppm many) (xv 7) = aM1 len0 ppm := by rw [dec_eq hlen (c := 0) (cs := [0, 0, 0, 0, 0, 0, 0, 1, 0, 0, 0, 0, 0, 0, 0]) (by kernel_rfl) (by kernel_rfl)]; simp only [dot, rhoA]; omega
  have d8 : dec (rhoA many0 win0 len0 ppm many) (xv 8) = aM2 len0 ppm := by rw [dec_eq hlen (c := 0) (cs := [0, 0, 0, 0, 0, 0, 0, 0, 1, 0, 0, 0, 0, 0, 0]) (by kernel_rfl) (by kernel_rfl)]; simp only [dot, rhoA]; omega
  have d9 : dec (rhoA many0 win0 len0 ppm many) (xv 9) = aA ppm := by rw [dec_eq hlen (c := 0) (cs := [0, 0, 0, 0, 0, 0, 0, 0, 0, 1, 0, 0, 0, 0, 0]) (by kernel_rfl) (by kernel_rfl)]; simp only [dot, rhoA]; omega
  have d10 : dec (rhoA many0 win0 len0 ppm many) (xv 10) = ppm := by rw [dec_eq hlen (c := 0) (cs := [0, 0, 0, 0, 0, 0, 0, 0, 0, 0, 1, 0, 0, 0, 0]) (by kernel_rfl) (by kernel_rfl)]; simp only [dot, rhoA]; omega
  have d11 : dec (rhoA many0 win0 len0 ppm many) (xv 11) = win0 := by rw [dec_eq hlen (c := 0) (cs := [0, 0, 0, 0, 0, 0, 0, 0, 0, 0, 0, 1, 0, 0, 0]) (by kernel_rfl) (by kernel_rfl)]; simp only [dot, rhoA]; omega
  have d12 : dec (rhoA many0 win0 len0 ppm many) (xv 12) = len0 := by rw [dec_eq hlen (c := 0) (cs := [0, 0, 0, 0, 0, 0, 0, 0, 0, 0, 0, 0, 1, 0, 0]) (by kernel_rfl) (by kernel_rfl)]; simp only [dot, rhoA]; omega
  have d14 : dec (rhoA many0 win0 len0 ppm many) (xv 14) = many := by rw [dec_eq hlen (c := 0) (cs := [0, 0, 0, 0, 0, 0, 0, 0, 0, 0, 0, 0, 0, 0, 1]) (by kernel_rfl) (by kernel_rfl)]; simp only [dot, rhoA]; omega
  have e1 : dec (rhoA many0 win0 len0 ppm many) (4 + xv 2) = 4 + aL len0 := by rw [dec_eq hlen (c := 4) (cs := [0, 0, 1, 0, 0, 0, 0, 0, 0, 0, 0, 0, 0, 0, 0]) (by kernel_rfl) (by kernel_rfl)]; simp only [dot, rhoA]; omega
  have e2 : dec (rhoA many0 win0 len0 ppm many) (1000000 - xv 4) = 1000000 - aP ppm := by rw [dec_eq hlen (c := 1000000) (cs := [0, 0, 0, 0, -1, 0, 0, 0, 0, 0, 0, 0, 0, 0, 0]) (by kernel_rfl) (by kernel_rfl)]; simp only [dot, rhoA]; omega
  have e3 : dec (rhoA many0 win0 len0 ppm many) (3 + xv 2) = 3 + aL len0 := by rw [dec_eq hlen (c := 3) (cs := [0, 0, 1, 0, 0, 0, 0, 0, 0, 0, 0, 0, 0, 0, 0]) (by kernel_rfl) (by kernel_rfl)]; simp only [dot, rhoA]; omega
  have e4 : dec (rhoA many0 win0 len0 ppm many) (1000000 + xv 4) = 1000000 + aP ppm := by rw [dec_eq hlen (c := 1000000) (cs := [0, 0, 0, 0, 1, 0, 0, 0, 0, 0, 0, 0, 0, 0, 0]) (by kernel_rfl) (by kernel_rfl)]; simp only [dot, rhoA]; omega
  have e5 : dec (rhoA many0 win0 len0 ppm many) (999999 + xv 8) = 999999 + aM2 len0 ppm := by rw [dec_eq hlen (c := 999999) (cs := [0, 0, 0, 0, 0, 0, 0, 0, 1, 0, 0, 0, 0, 0, 0]) (by kernel_rfl) (by kernel_rfl)]; simp only [dot, rhoA]; omega
  have n1 : dec (rhoA many0 win0 len0 ppm many) 2000 = 2000 := dec_pln rfl
  have n2 : dec (rhoA many0 win0 len0 ppm many) 12 = 12 := dec_pln rfl
  have n3 : dec (rhoA many0 win0 len0 ppm many) 20 = 20 := dec_pln rfl
  have n4 : dec (rhoA many0 win0 len0 ppm many) 1000000 = 1000000 := dec_pln rfl
  have n5 : dec (rhoA many0 win0 len0 ppm many) 4 = 4 := dec_pln rfl
  have n6 : dec (rhoA many0 win0 len0 ppm many) 1 = 1 := dec_pln rfl
  have n7 : dec (rhoA many0 win0 len0 ppm many) 0 = 0 := dec_pln rfl
  have n8 : dec (rhoA many0 win0 len0 ppm many) 100000 = 100000 := dec_pln rfl
  have n9 : dec (rhoA many0 win0 len0 ppm many) c = c := dec_pln hcp
  refine ⟨rfl, ?_, ?_, ?_, ?_, ?_⟩
  · have b9 : 0 ≤ aV win0 ∧ aV win0 ≤ 11 := by unfold aV; omega
    have b10 : -9223372036854775808 ≤ aA ppm ∧ aA ppm ≤ 100000 := by unfold aA; omega
    exact .cons b7.1 b7.2 (.cons b8.1 b8.2 (.cons b1.1 b1.2 (.cons b9.1 b9.2 (.cons b2.1 b2.2 (.cons b6.1 b6.2 (.cons b5.1 b5.2 (.cons b3.1 b3.2 (.cons b4.1 b4.2 (.cons b10.1 b10.2 (.cons hp0.1 (by omega) (.cons hw0.1 (by omega) (.cons hl0.1 (by omega) (.cons hm0.1 (by omega) (.cons hm.1 (by omega) .nil))))))))))))))
  · intro g hg
    obtain rfl : g = f := List.mem_singleton.1 hg
    exact ⟨hfc, hff⟩
  · intro e he hh
    simp only [SA, List.mem_cons, List.not_mem_nil, or_false] at he
    rcases he with rfl | rfl | rfl | rfl | rfl | rfl | rfl | rfl
    · show arI .rem .u16 (dec _ (xv 12)) (dec _ 2000) hh = .ok (.int .u16 (dec _ (xv 2))) hh
      rw [d12, n1, d2]; exact arI_rem hl0.1 (by omega) rfl hh
    · show arI .rem .u8 (dec _ (xv 11)) (dec _ 12) hh = .ok (.int .u8 (dec _ (xv 3))) hh
      rw [d11, n2, d3]; exact arI_rem hw0.1 (by omega) rfl hh
    · show arI .rem .u8 (dec _ (xv 14)) (dec _ 20) hh = .ok (.int .u8 (dec _ c)) hh
      rw [d14, n3, n9]; exact arI_rem hm.1 (by omega) hc hh
    · show arI .mul .i64 (dec _ (4 + xv 2)) (dec _ (1000000 - xv 4)) hh = .ok (.int .i64 (dec _ (xv 7))) hh
      rw [e1, e2, d7]; exact arI_mul (r := aM1 len0 ppm) rfl (by omega) (by omega) hh
    · show arI .quo .i64 (dec _ (xv 7)) (dec _ 1000000) hh = .ok (.int .i64 (dec _ (xv 6))) hh
      rw [d7, n4, d6]; exact arI_quo (by omega) (by omega) rfl (by omega) (by omega) hh
    · show arI .quo .i64 (dec _ (xv 6)) (dec _ 4) hh = .ok (.int .i64 (dec _ (xv 5))) hh
      rw [d6, n5, d5]; exact arI_quo (by omega) (by omega) rfl (by omega) (by omega) hh
    · show arI .mul .i64 (dec _ (3 + xv 2)) (dec _ (1000000 + xv 4)) hh = .ok (.int .i64 (dec _ (xv 8))) hh
      rw [e3, e4, d8]; exact arI_mul (r := aM2 len0 ppm) rfl (by omega) (by omega) hh
    · show arI .quo .i64 (dec _ (999999 + xv 8)) (dec _ 1000000) hh = .ok (.int .i64 (dec _ (xv 1))) hh
      rw [e5, n4, d1]; exact arI_quo (by omega) (by omega) rfl (by omega) (by omega) hh
  · intro e he
    simp only [SA, List.mem_cons, List.not_mem_nil, or_false] at he
    rcases he with rfl | rfl
    · show max (dec _ 1) (dec _ (xv 5)) = dec _ (xv 0)
      rw [n6, d5, d0]; rfl
    · show max (dec _ 0) (dec _ (xv 9)) = dec _ (xv 4)
      rw [n7, d9, d4]; rfl
  · intro e he
    simp only [SA, List.mem_cons, List.not_mem_nil, or_false] at he
    subst he
    show min (dec _ (xv 10)) (dec _ 100000) = dec _ (xv 9)
    rw [d10, n8, d9]; rfl
end
section
variable {many0 win0 len0 ppm many : Int}
theorem args_D : argsA.map (V.D (dec (rhoA many0 win0 len0 ppm many))) = [.agg [.int .u8 many0, .int .u8 win0, .int .u16 len0, .int .i64 ppm], .int .u8 many] := by
  have hlen : (rhoA many0 win0 len0 ppm many).length = 15 := rfl
  have d10 : dec (rhoA many0 win0 len0 ppm many) (xv 10) = ppm := by rw [dec_eq hlen (c := 0) (cs := [0, 0, 0, 0, 0, 0, 0, 0, 0, 0, 1, 0, 0, 0, 0]) (by kernel_rfl) (by kernel_rfl)]; simp only [dot, rhoA]; omega
  have d11 : dec (rhoA many0 win0 len0 ppm many) (xv 11) = win0 := by rw [dec_eq hlen (c := 0) (cs := [0, 0, 0, 0, 0, 0, 0, 0, 0, 0, 0, 1, 0, 0, 0]) (by kernel_rfl) (by kernel_rfl)]; simp only [dot, rhoA]; omega
  have d12 : dec (rhoA many0 win0 len0 ppm many) (xv 12) = len0 := by rw [dec_eq hlen (c := 0) (cs := [0, 0, 0, 0, 0, 0, 0, 0, 0, 0, 0, 0, 1, 0, 0]) (by kernel_rfl) (by kernel_rfl)]; simp only [dot, rhoA]; omega
  have d13 : dec (rhoA many0 win0 len0 ppm many) (xv 13) = many0 := by rw [dec_eq hlen (c := 0) (cs := [0, 0, 0, 0, 0, 0, 0, 0, 0, 0, 0, 0, 0, 1, 0]) (by kernel_rfl) (by kernel_rfl)]; simp only [dot, rhoA]; omega
  have d14 : dec (rhoA many0 win0 len0 ppm many) (xv 14) = many := by rw [dec_eq hlen (c := 0) (cs := [0, 0, 0, 0, 0, 0, 0, 0, 0, 0, 0, 0, 0, 0, 1]) (by kernel_rfl) (by kernel_rfl)]; simp only [dot, rhoA]; omega
  simp only [argsA, List.map_cons, List.map_nil, V.D, V.Ds, d10, d11, d12, d13, d14]
theorem gbs_pl : ∀ cs, some cs ∈ gbs → V.pls cs = true := by
  intro cs hc
  simp only [gbs, List.mem_cons, List.not_mem_nil, or_false, Option.some.injEq, reduceCtorEq, false_or] at hc
  rcases hc with rfl | rfl <;> kernel_rfl
theorem fact_of (c0 : Int) (ck cw : Int) {n : Int} (hd : dig n = c0) (hc : coef 15 (quo n) = [ck, cw, 0, 0, 0, 0, 0, 0, 0, 0, 0, 0, 0, 0, 0]) : dec (rhoA many0 win0 len0 ppm many) n = c0 + ck * aT len0 ppm + cw * aW len0 ppm := by
  rw [dec_eq (m := 15) rfl hd hc]; simp only [dot, rhoA]; omega
end
end Go.Am
namespace Go.Am
set_option maxRecDepth 100000
theorem asks_ok {many0 win0 len0 ppm many : Int} (hm0 : 0 ≤ many0 ∧ many0 < 256) (hw0 : 0 ≤ win0 ∧ win0 < 256) (hl0 : 0 ≤ len0 ∧ len0 < 65536) (hp0 : -9223372036854775808 ≤ ppm ∧ ppm < 9223372036854775808) (hm : 0 ≤ many ∧ many < 256) :
    AllTrue (call fnt 1000 50 p5 [.agg [.int .u8 many0, .int .u8 win0, .int .u16 len0, .int .i64 ppm], .int .u8 many] (H0 0 gbs)) := by
  have hc : many % 20 = 0 ∨ many % 20 = 1 ∨ many % 20 = 2 ∨ many % 20 = 3 ∨ many % 20 = 4 ∨ many % 20 = 5 ∨ many % 20 = 6 ∨ many % 20 = 7 ∨ many % 20 = 8 ∨ many % 20 = 9 ∨ many % 20 = 10 ∨ many % 20 = 11 ∨ many % 20 = 12 ∨ many % 20 = 13 ∨ many % 20 = 14 ∨ many % 20 = 15 ∨ many % 20 = 16 ∨ many % 20 = 17 ∨ many % 20 = 18 ∨ many % 20 = 19 := by omega
  rcases hc with hc | hc | hc | hc | hc | hc | hc | hc | hc | hc | hc | hc | hc | hc | hc | hc | hc | hc | hc | hc
  · exact sx_all (sa_ok hm0 hw0 hl0 hp0 hm (c := 0) (f := 0) hc rfl rfl (by rw [dec_pln rfl]; exact Int.le_refl _)) fnt_pl gbs_pl args_D run_a0
  · exact sx_all (sa_ok hm0 hw0 hl0 hp0 hm (c := 1) (f := 0) hc rfl rfl (by rw [dec_pln rfl]; exact Int.le_refl _)) fnt_pl gbs_pl args_D run_a1
  · have fa := fact_of (many0 := many0) (win0 := win0) (len0 := len0) (ppm := ppm) (many := many) 0 (-1) 1 (n := xv 1 - 1 * xv 0) (by kernel_rfl) (by kernel_rfl)
    have fb := fact_of (many0 := many0) (win0 := win0) (len0 := len0) (ppm := ppm) (many := many) (-1) 1 (-1) (n := 1 * xv 0 - xv 1 - 1) (by kernel_rfl) (by kernel_rfl)
    by_cases hq : 1 * aT len0 ppm ≤ aW len0 ppm
    · exact sx_all (sa_ok hm0 hw0 hl0 hp0 hm (c := 2) hc rfl (by kernel_rfl) (by rw [fa]; omega)) fnt_pl gbs_pl args_D run_a2
    · exact sx_all (sa_ok hm0 hw0 hl0 hp0 hm (c := 2) hc rfl (by kernel_rfl) (by rw [fb]; omega)) fnt_pl gbs_pl args_D run_b2
  · have fa := fact_of (many0 := many0) (win0 := win0) (len0 := len0) (ppm := ppm) (many := many) 0 (-2) 1 (n := xv 1 - 2 * xv 0) (by kernel_rfl) (by kernel_rfl)
    have fb := fact_of (many0 := many0) (win0 := win0) (len0 := len0) (ppm := ppm) (many := many) (-1) 2 (-1) (n := 2 * xv 0 - xv 1 - 1) (by kernel_rfl) (by kernel_rfl)
    by_cases hq : 2 * aT len0 ppm ≤ aW len0 ppm
    · exact sx_all (sa_ok hm0 hw0 hl0 hp0 hm (c := 3) hc rfl (by kernel_rfl) (by rw [fa]; omega)) fnt_pl gbs_pl args_D run_a3
    · exact sx_all (sa_ok hm0 hw0 hl0 hp0 hm (c := 3) hc rfl (by kernel_rfl) (by rw [fb]; omega)) fnt_pl gbs_pl args_D run_b3
  · have fa := fact_of (many0 := many0) (win0 := win0) (len0 := len0) (ppm := ppm) (many := many) 0 (-3) 1 (n := xv 1 - 3 * xv 0) (by kernel_rfl) (by kernel_rfl)
    have fb := fact_of (many0 := many0) (win0 := win0) (len0 := len0) (ppm := ppm) (many := many) (-1) 3 (-1) (n := 3 * xv 0 - xv 1 - 1) (by kernel_rfl) (by kernel_rfl)
    by_cases hq : 3 * aT len0 ppm ≤ aW len0 ppm
    · exact sx_all (sa_ok hm0 hw0 hl0 hp0 hm (c := 4) hc rfl (by kernel_rfl) (by rw [fa]; omega)) fnt_pl gbs_pl args_D run_a4
    · exact sx_all (sa_ok hm0 hw0 hl0 hp0 hm (c := 4) hc rfl (by kernel_rfl) (by rw [fb]; omega)) fnt_pl gbs_pl args_D run_b4
  · have fa := fact_of (many0 := many0) (win0 := win0) (len0 := len0) (ppm := ppm) (many := many) 0 (-4) 1 (n := xv 1 - 4 * xv 0) (by kernel_rfl) (by kernel_rfl)
    have fb := fact_of (many0 := many0) (win0 := win0) (len0 := len0) (ppm := ppm) (many := many) (-1) 4 (-1) (n := 4 * xv 0 - xv 1 - 1) (by kernel_rfl) (by kernel_rfl)
    by_cases hq : 4 * aT len0 ppm ≤ aW len0 ppm
    · exact sx_all (sa_ok hm0 hw0 hl0 hp0 hm (c := 5) hc rfl (by kernel_rfl) (by rw [fa]; omega)) fnt_pl gbs_pl args_D run_a5
    · exact sx_all (sa_ok hm0 hw0 hl0 hp0 hm (c := 5) hc rfl (by kernel_rfl) (by rw [fb]; omega)) fnt_pl gbs_pl args_D run_b5
  · have fa := fact_of (many0 := many0) (win0 := win0) (len0 := len0) (ppm := ppm) (many := many) 0 (-5) 1 (n := xv 1 - 5 * xv 0) (by kernel_rfl) (by kernel_rfl)
    have fb := fact_of (many0 := many0) (win0 := win0) (len0 := len0) (ppm := ppm) (many := many) (-1) 5 (-1) (n := 5 * xv 0 - xv 1 - 1) (by kernel_rfl) (by kernel_rfl)
    by_cases hq : 5 * aT len0 ppm ≤ aW len0 ppm
    · exact sx_all (sa_ok hm0 hw0 hl0 hp0 hm (c := 6) hc rfl (by kernel_rfl) (by rw [fa]; omega)) fnt_pl gbs_pl args_D run_a6
    · exact sx_all (sa_ok hm0 hw0 hl0 hp0 hm (c := 6) hc rfl (by kernel_rfl) (by rw [fb]; omega)) fnt_pl gbs_pl args_D run_b6
  · have fa := fact_of (many0 := many0) (win0 := win0) (len0 := len0) (ppm := ppm) (many := many) 0 (-6) 1 (n := xv 1 - 6 * xv 0) (by kernel_rfl) (by kernel_rfl)
    have fb := fact_of (many0 := many0) (win0 := win0) (len0 := len0) (ppm := ppm) (many := many) (-1) 6 (-1) (n := 6 * xv 0 - xv 1 - 1) (by kernel_rfl) (by kernel_rfl)
    by_cases hq : 6 * aT len0 ppm ≤ aW len0 ppm
    · exact sx_all (sa_ok hm0 hw0 hl0 hp0 hm (c := 7) hc rfl (by kernel_rfl) (by rw [fa]; omega)) fnt_pl gbs_pl args_D run_a7
    · exact sx_all (sa_ok hm0 hw0 hl0 hp0 hm (c := 7) hc rfl (by kernel_rfl) (by rw [fb]; omega)) fnt_pl gbs_pl args_D run_b7
  · have fa := fact_of (many0 := many0) (win0 := win0) (len0 := len0) (ppm := ppm) (many := many) 0 (-7) 1 (n := xv 1 - 7 * xv 0) (by kernel_rfl) (by kernel_rfl)
    have fb := fact_of (many0 := many0) (win0 := win0) (len0 := len0) (ppm := ppm) (many := many) (-1) 7 (-1) (n := 7 * xv 0 - xv 1 - 1) (by kernel_rfl) (by kernel_rfl)
    by_cases hq : 7 * aT len0 ppm ≤ aW len0 ppm
    · exact sx_all (sa_ok hm0 hw0 hl0 hp0 hm (c := 8) hc rfl (by kernel_rfl) (by rw [fa]; omega)) fnt_pl gbs_pl args_D run_a8
    · exact sx_all (sa_ok hm0 hw0 hl0 hp0 hm (c := 8) hc rfl (by kernel_rfl) (by rw [fb]; omega)) fnt_pl gbs_pl args_D run_b8
  · have fa := fact_of (many0 := many0) (win0 := win0) (len0 := len0) (ppm := ppm) (many := many) 0 (-8) 1 (n := xv 1 - 8 * xv 0) (by kernel_rfl) (by kernel_rfl)
    have fb := fact_of (many0 := many0) (win0 := win0) (len0 := len0) (ppm := ppm) (many := many) (-1) 8 (-1) (n := 8 * xv 0 - xv 1 - 1) (by kernel_rfl) (by kernel_rfl)
    by_cases hq : 8 * aT len0 ppm ≤ aW len0 ppm
    · exact sx_all (sa_ok hm0 hw0 hl0 hp0 hm (c := 9) hc rfl (by kernel_rfl) (by rw [fa]; omega)) fnt_pl gbs_pl args_D run_a9
    · exact sx_all (sa_ok hm0 hw0 hl0 hp0 hm (c := 9) hc rfl (by kernel_rfl) (by rw [fb]; omega)) fnt_pl gbs_pl args_D run_b9
  · have fa := fact_of (many0 := many0) (win0 := win0) (len0 := len0) (ppm := ppm) (many := many) 0 (-9) 1 (n := xv 1 - 9 * xv 0) (by kernel_rfl) (by kernel_rfl)
    have fb := fact_of (many0 := many0) (win0 := win0) (len0 := len0) (ppm := ppm) (many := many) (-1) 9 (-1) (n := 9 * xv 0 - xv 1 - 1) (by kernel_rfl) (by kernel_rfl)
    by_cases hq : 9 * aT len0 ppm ≤ aW len0 ppm
    · exact sx_all (sa_ok hm0 hw0 hl0 hp0 hm (c := 10) hc rfl (by kernel_rfl) (by rw [fa]; omega)) fnt_pl gbs_pl args_D run_a10
    · exact sx_all (sa_ok hm0 hw0 hl0 hp0 hm (c := 10) hc rfl (by kernel_rfl) (by rw [fb]; omega)) fnt_pl gbs_pl args_D run_b10
  · have fa := fact_of (many0 := many0) (win0 := win0) (len0 := len0) (ppm := ppm) (many := many) 0 (-10) 1 (n := xv 1 - 10 * xv 0) (by kernel_rfl) (by kernel_rfl)
    have fb := fact_of (many0 := many0) (win0 := win0) (len0 := len0) (ppm := ppm) (many := many) (-1) 10 (-1) (n := 10 * xv 0 - xv 1 - 1) (by kernel_rfl) (by kernel_rfl)
    by_cases hq : 10 * aT len0 ppm ≤ aW len0 ppm
    · exact sx_all (sa_ok hm0 hw0 hl0 hp0 hm (c := 11) hc rfl (by kernel_rfl) (by rw [fa]; omega)) fnt_pl gbs_pl args_D run_a11
    · exact sx_all (sa_ok hm0 hw0 hl0 hp0 hm (c := 11) hc rfl (by kernel_rfl) (by rw [fb]; omega)) fnt_pl gbs_pl args_D run_b11
  · have fa := fact_of (many0 := many0) (win0 := win0) (len0 := len0) (ppm := ppm) (many := many) 0 (-11) 1 (n := xv 1 - 11 * xv 0) (by kernel_rfl) (by kernel_rfl)
    have fb := fact_of (many0 := many0) (win0 := win0) (len0 := len0) (ppm := ppm) (many := many) (-1) 11 (-1) (n := 11 * xv 0 - xv 1 - 1) (by kernel_rfl) (by kernel_rfl)
    by_cases hq : 11 * aT len0 ppm ≤ aW len0 ppm
    · exact sx_all (sa_ok hm0 hw0 hl0 hp0 hm (c := 12) hc rfl (by kernel_rfl) (by rw [fa]; omega)) fnt_pl gbs_pl args_D run_a12
    · exact sx_all (sa_ok hm0 hw0 hl0 hp0 hm (c := 12) hc rfl (by kernel_rfl) (by rw [fb]; omega)) fnt_pl gbs_pl args_D run_b12
  · have fa := fact_of (many0 := many0) (win0 := win0) (len0 := len0) (ppm := ppm) (many := many) 0 (-12) 1 (n := xv 1 - 12 * xv 0) (by kernel_rfl) (by kernel_rfl)
    have fb := fact_of (many0 := many0) (win0 := win0) (len0 := len0) (ppm := ppm) (many := many) (-1) 12 (-1) (n := 12 * xv 0 - xv 1 - 1) (by kernel_rfl) (by kernel_rfl)
    by_cases hq : 12 * aT len0 ppm ≤ aW len0 ppm
    · exact sx_all (sa_ok hm0 hw0 hl0 hp0 hm (c := 13) hc rfl (by kernel_rfl) (by rw [fa]; omega)) fnt_pl gbs_pl args_D run_a13
    · exact sx_all (sa_ok hm0 hw0 hl0 hp0 hm (c := 13) hc rfl (by kernel_rfl) (by rw [fb]; omega)) fnt_pl gbs_pl args_D run_b13
  · have fa := fact_of (many0 := many0) (win0 := win0) (len0 := len0) (ppm := ppm) (many := many) 0 (-13) 1 (n := xv 1 - 13 * xv 0) (by kernel_rfl) (by kernel_rfl)
    have fb := fact_of (many0 := many0) (win0 := win0) (len0 := len0) (ppm := ppm) (many := many) (-1) 13 (-1) (n := 13 * xv 0 - xv 1 - 1) (by kernel_rfl) (by kernel_rfl)
    by_cases hq : 13 * aT len0 ppm ≤ aW len0 ppm
    · exact sx_all (sa_ok hm0 hw0 hl0 hp0 hm (c := 14) hc rfl (by kernel_rfl) (by rw [fa]; omega)) fnt_pl gbs_pl args_D run_a14
    · exact sx_all (sa_ok hm0 hw0 hl0 hp0 hm (c := 14) hc rfl (by kernel_rfl) (by rw [fb]; omega)) fnt_pl gbs_pl args_D run_b14
  · have fa := fact_of (many0 := many0) (win0 := win0) (len0 := len0) (ppm := ppm) (many := many) 0 (-14) 1 (n := xv 1 - 14 * xv 0) (by kernel_rfl) (by kernel_rfl)
    have fb := fact_of (many0 := many0) (win0 := win0) (len0 := len0) (ppm := ppm) (many := many) (-1) 14 (-1) (n := 14 * xv 0 - xv 1 - 1) (by kernel_rfl) (by kernel_rfl)
    by_cases hq : 14 * aT len0 ppm ≤ aW len0 ppm
    · exact sx_all (sa_ok hm0 hw0 hl0 hp0 hm (c := 15) hc rfl (by kernel_rfl) (by rw [fa]; omega)) fnt_pl gbs_pl args_D run_a15
    · exact sx_all (sa_ok hm0 hw0 hl0 hp0 hm (c := 15) hc rfl (by kernel_rfl) (by rw [fb]; omega)) fnt_pl gbs_pl args_D run_b15
  · have fa := fact_of (many0 := many0) (win0 := win0) (len0 := len0) (ppm := ppm) (many := many) 0 (-15) 1 (n := xv 1 - 15 * xv 0) (by kernel_rfl) (by kernel_rfl)
    have fb := fact_of (many0 := many0) (win0 := win0) (len0 := len0) (ppm := ppm) (many := many) (-1) 15 (-1) (n := 15 * xv 0 - xv 1 - 1) (by kernel_rfl) (by kernel_rfl)
    by_cases hq : 15 * aT len0 ppm ≤ aW len0 ppm
    · exact sx_all (sa_ok hm0 hw0 hl0 hp0 hm (c := 16) hc rfl (by kernel_rfl) (by rw [fa]; omega)) fnt_pl gbs_pl args_D run_a16
    · exact sx_all (sa_ok hm0 hw0 hl0 hp0 hm (c := 16) hc rfl (by kernel_rfl) (by rw [fb]; omega)) fnt_pl gbs_pl args_D run_b16
  · have fa := fact_of (many0 := many0) (win0 := win0) (len0 := len0) (ppm := ppm) (many := many) 0 (-16) 1 (n := xv 1 - 16 * xv 0) (by kernel_rfl) (by kernel_rfl)
    have fb := fact_of (many0 := many0) (win0 := win0) (len0 := len0) (ppm := ppm) (many := many) (-1) 16 (-1) (n := 16 * xv 0 - xv 1 - 1) (by kernel_rfl) (by kernel_rfl)
    by_cases hq : 16 * aT len0 ppm ≤ aW len0 ppm
    · exact sx_all (sa_ok hm0 hw0 hl0 hp0 hm (c := 17) hc rfl (by kernel_rfl) (by rw [fa]; omega)) fnt_pl gbs_pl args_D run_a17
    · exact sx_all (sa_ok hm0 hw0 hl0 hp0 hm (c := 17) hc rfl (by kernel_rfl) (by rw [fb]; omega)) fnt_pl gbs_pl args_D run_b17
  · have fa := fact_of (many0 := many0) (win0 := win0) (len0 := len0) (ppm := ppm) (many := many) 0 (-17) 1 (n := xv 1 - 17 * xv 0) (by kernel_rfl) (by kernel_rfl)
    have fb := fact_of (many0 := many0) (win0 := win0) (len0 := len0) (ppm := ppm) (many := many) (-1) 17 (-1) (n := 17 * xv 0 - xv 1 - 1) (by kernel_rfl) (by kernel_rfl)
    by_cases hq : 17 * aT len0 ppm ≤ aW len0 ppm
    · exact sx_all (sa_ok hm0 hw0 hl0 hp0 hm (c := 18) hc rfl (by kernel_rfl) (by rw [fa]; omega)) fnt_pl gbs_pl args_D run_a18
    · exact sx_all (sa_ok hm0 hw0 hl0 hp0 hm (c := 18) hc rfl (by kernel_rfl) (by rw [fb]; omega)) fnt_pl gbs_pl args_D run_b18
  · have fa := fact_of (many0 := many0) (win0 := win0) (len0 := len0) (ppm := ppm) (many := many) 0 (-18) 1 (n := xv 1 - 18 * xv 0) (by kernel_rfl) (by kernel_rfl)
    have fb := fact_of (many0 := many0) (win0 := win0) (len0 := len0) (ppm := ppm) (many := many) (-1) 18 (-1) (n := 18 * xv 0 - xv 1 - 1) (by kernel_rfl) (by kernel_rfl)
    by_cases hq : 18 * aT len0 ppm ≤ aW len0 ppm
    · exact sx_all (sa_ok hm0 hw0 hl0 hp0 hm (c := 19) hc rfl (by kernel_rfl) (by rw [fa]; omega)) fnt_pl gbs_pl args_D run_a19
    · exact sx_all (sa_ok hm0 hw0 hl0 hp0 hm (c := 19) hc rfl (by kernel_rfl) (by rw [fb]; omega)) fnt_pl gbs_pl args_D run_b19
end Go.Am
