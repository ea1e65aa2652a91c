/- LeaseSafe: the machine's run with any input ends with true. -/
import Derived.Test.YtfgolglgogmniaaClocks
import Derived.Test.YtfgolglgogmniaaAw
import Derived.Test.YtfgolglgogmniaaRows
namespace Go.Am
set_option maxRecDepth 100000
set_option maxHeartbeats 16000000
theorem ex_i {α : Sort _} {p : α → Prop} {c : Prop} (k : ∀ x, p x → c) : (∃ x, p x) → c := fun ⟨x, h⟩ => k x h
theorem and_i {a b c : Prop} (k : a → b → c) : a ∧ b → c := fun h => k h.1 h.2
theorem readF_zero {off na : Int} : readF off na 0 = off := by unfold readF; omega
/-- a serial of an ask at some time; a grant or a lease that an entry of the issuer covers -/
def Asked (na t s : Int) : Prop := ∃ ts, 0 ≤ ts ∧ ts ≤ t ∧ s = readF 7 na ts + 1
def Given1 (na nb pp ln t : Int) (lx : List Ent) (n s : Int) : Prop := ∃ ts tg, 0 ≤ ts ∧ ts ≤ tg ∧ tg ≤ t ∧ s = readF 7 na ts + 1 ∧ (([99], n, readF 100 nb tg + waitF ln pp) : Ent) ∈ lx
theorem Asked.le {na t t' s : Int} (h : Asked na t s) (k : t ≤ t') : Asked na t' s := let ⟨ts, a, b, c⟩ := h; ⟨ts, a, by omega, c⟩
theorem Given1.le {na nb pp ln t t' n s : Int} {lx : List Ent} (h : Given1 na nb pp ln t lx n s) (k : t ≤ t') : Given1 na nb pp ln t' lx n s := let ⟨ts, tg, a, b, c, d, e⟩ := h; ⟨ts, tg, a, b, by omega, d, e⟩
theorem Given1.app {na nb pp ln t n s : Int} {lx : List Ent} (h : Given1 na nb pp ln t lx n s) (y : Ent) : Given1 na nb pp ln t (lx ++ [y]) n s := let ⟨ts, tg, a, b, c, d, e⟩ := h; ⟨ts, tg, a, b, c, d, List.mem_append_left _ e⟩
theorem untilF_spec {a : Int} : ∀ (l : List (Int × Int)) (out : Int), untilF a out l = out ∨ ∃ y ∈ l, y.1 ≤ a ∧ untilF a out l = y.2 := by
  intro l
  induction l with
  | nil => intro out; exact .inl rfl
  | cons z l ih =>
    intro out
    have e : untilF a out (z :: l) = untilF a (if z.1 ≤ a then max out z.2 else out) l := rfl
    rw [e]
    rcases ih (if z.1 ≤ a then max out z.2 else out) with h3 | ⟨y, hy, hn, h3⟩
    · by_cases hz : z.1 ≤ a
      · rw [if_pos hz] at h3 ⊢
        by_cases hm : out ≤ z.2
        · exact .inr ⟨z, List.mem_cons_self, hz, by rw [h3]; omega⟩
        · exact .inl (by rw [h3]; omega)
      · rw [if_neg hz] at h3 ⊢; exact .inl h3
    · exact .inr ⟨y, List.mem_cons_of_mem _ hy, hn, h3⟩
/-- what is held is not free -/
theorem safe_law {na nb pp ln t ap : Int} {lx : List Ent} {lea : List (Int × Int)} (h0 : 0 ≤ pp) (h1 : pp ≤ 100000) (ha : 1000 - pp / 1000 ≤ na) (hb : nb ≤ 1000 + pp / 1000) (hb0 : 0 ≤ nb) (hl : 1 ≤ ln) (hl2 : ln ≤ 1099511627776)
    (hz : ∀ y ∈ lea, ∃ s, y.2 = s - 1 + holdF ln pp ∧ Given1 na nb pp ln t lx y.1 s) (hh : readF 7 na t < untilF ap (readF 7 na t) lea) : ∃ y ∈ lx, blocks [99] (ap + 1) (readF 100 nb t) y := by
  rcases untilF_spec (a := ap) lea (readF 7 na t) with e | ⟨y, hy, hn, e⟩
  · omega
  · obtain ⟨s, hs, ts, tg, a, b, c, d, hm⟩ := hz y hy
    refine ⟨_, hm, rfl, by show y.1 < ap + 1; omega, ?_⟩
    exact drift h0 h1 ha hb hb0 hl hl2 b c 7 100 (by omega)

end Go.Am
namespace Go.Am
set_option maxRecDepth 100000
set_option maxHeartbeats 16000000
theorem safe_ok (L : Nat) (hL : 1001 ≤ L) (h00 h : H) (n1 : P) (hn1 : n1 = h00.next) (va : V) (FA : List P) (xa : List (List V)) (ppm u0 u1 lg : Int) (aw : call fnt L 19 p8 [] (h00.alloc (.cells [.int .i64 ppm, .int .u32 u0, .int .u32 u1] false)) = .ok (.bool true) h) (aw2 : Ens (call fnt L 19 p8 [] h) fun v _ => v = .bool true)
    (hb_n1 : h.get n1 = some (.cells [.int .i64 ppm, .int .u32 u0, .int .u32 u1] false)) (lt_n1 : n1.num < h.next.num) (nf_n1_A : n1 ∉ FA) (A : Ar 4 h va FA xa) (eA : ∀ e ∈ xa, ∃ k p g n, e = [.int .u8 k, .int .u8 p, .int .u16 g, .int .u8 n] ∧ (0 ≤ k ∧ k < 256) ∧ (0 ≤ p ∧ p < 256) ∧ (0 ≤ g ∧ g < 65536) ∧ (0 ≤ n ∧ n < 256))
    (hu0 : 0 ≤ u0 ∧ u0 < 4294967296) (hu1 : 0 ≤ u1 ∧ u1 < 4294967296) (hlg : 0 ≤ lg ∧ lg < 65536) :
    Ens (call fnt L 20 p5 [.agg [.int .i64 ppm, .int .u32 u0, .int .u32 u1], va, .int .u16 lg] h00) (fun v _ => v = .bool true) := by
  refine w_fn (af := af5) rfl rfl rfl ?_
  refine w_seq ?_
  refine w_reg ?_
  refine w_eq (v := .ptr n1 0) (h' := h00.alloc (.cells [.int .i64 ppm, .int .u32 u0, .int .u32 u1] false)) (by rw [hn1]; rfl) ?_
  refine w_kp ?_
  refine w_mv_bool rfl ?_
  refine w_kp ?_
  refine w_nil ?_
  refine w_seq ?_
  refine w_seq ?_
  refine w_reg ?_
  refine w_call (ens_eq aw ?_)
  refine w_not rfl ?_
  refine w_mv_bool rfl ?_
  refine w_gop rfl (fun _ => ?_) (fun hh => nomatch hh)
  refine w_mv (evs' (gsn rfl (gsn rfl rfl))) ?_
  refine w_gop rfl (fun _ => ?_) (fun hh => nomatch hh)
  refine w_ar_len A rfl ?_
  refine w_gop rfl (fun _ => ?_) (fun hh => nomatch hh)
  refine w_gt rfl rfl (fun c1 => ?_) (fun c1 => ?_)
  ·
    refine w_pick rfl (fun hh => nomatch hh) (fun _ => ?_)
    refine w_mv_bool rfl ?_
    refine w_kp ?_
    refine w_nil ?_
    refine w_cond (evs' gse) (fun _ => ?_) (fun hh => nomatch hh)
    refine w_seq ?_
    refine w_reg ?_
    refine w_call (aw2.mono fun v hv2 hv => ?_)
    subst hv
    refine w_mv_bool rfl ?_
    refine w_kp ?_
    refine w_nil ?_
    refine w_ret ?_
    refine ens_ret1 gse ?_
    exact rfl
  ·
    refine w_pick rfl (fun hh => nomatch hh) (fun _ => ?_)
    refine w_mv_bool rfl ?_
    refine w_kp ?_
    refine w_nil ?_
    refine w_cond (evs' gse) (fun hh => nomatch hh) (fun _ => ?_)
    refine w_skip ?_
    refine w_seq ?_
    refine w_reg ?_
    refine w_ldn (evs' (gsn rfl (gsn rfl gse))) hb_n1 rfl ?_
    refine w_call (clocks_ok _ _ _ _ _ _ hu0 hu1 (fun h2 na nb pp hp0 hp1 hna0 hna1 hnb0 hnb1 kp2 => ?_))
    have hb_n1 := kp2.get hb_n1 lt_n1 ni0
    have A := A.keep kp2 nF0
    have lt_n1 := kp2.lt lt_n1
    refine w_mv_tup rfl ?_
    refine w_eq rfl ?_
    refine w_eq rfl ?_
    refine w_eq rfl ?_
    refine m_alloc (fun n3 h3 hb_n3 kp3 nn3 hn3 => ?_)
    have nf_n3_A := A.new nn3
    have hb_n1 := kp3.get hb_n1 lt_n1 ni0
    have A := A.keep kp3 nF0
    have lt_n1 := kp3.lt lt_n1
    have lt_n3 : n3.num < h3.next.num := by omega
    refine w_kp ?_
    refine m_alloc (fun n4 h4 hb_n4 kp4 nn4 hn4 => ?_)
    have nf_n4_A := A.new nn4
    have hb_n1 := kp4.get hb_n1 lt_n1 ni0
    have hb_n3 := kp4.get hb_n3 lt_n3 ni0
    have A := A.keep kp4 nF0
    have lt_n1 := kp4.lt lt_n1
    have lt_n3 := kp4.lt lt_n3
    have lt_n4 : n4.num < h4.next.num := by omega
    refine w_kp ?_
    refine m_st_agg hb_n3 rfl rfl rfl rfl (fun h5 hq kp5 => ?_)
    have hb_n1 := kp5.get hb_n1 lt_n1 (ni1 (by omega))
    have hb_n4 := kp5.get hb_n4 lt_n4 (ni1 (by omega))
    have A := A.keep kp5 (nF1 nf_n3_A)
    have lt_n1 := kp5.lt lt_n1
    have lt_n3 := kp5.lt lt_n3
    have lt_n4 := kp5.lt lt_n4
    have hb_n3 := hq
    refine m_st_agg hb_n4 rfl rfl rfl rfl (fun h6 hq kp6 => ?_)
    have hb_n1 := kp6.get hb_n1 lt_n1 (ni1 (by omega))
    have hb_n3 := kp6.get hb_n3 lt_n3 (ni1 (by omega))
    have A := A.keep kp6 (nF1 nf_n4_A)
    have lt_n1 := kp6.lt lt_n1
    have lt_n3 := kp6.lt lt_n3
    have lt_n4 := kp6.lt lt_n4
    have hb_n4 := hq
    refine w_mv_int rfl ?_
    refine w_kp ?_
    refine w_nil ?_
    refine w_seq ?_
    refine w_reg ?_
    refine w_mv_int (evs' gse) ?_
    refine w_call (newHolder_ok _ _ _ _ (fun n7 h7 hb_n7 kp7 nn7 hn7 => ?_))
    have nf_n7_A := A.new nn7
    have hb_n1 := kp7.get hb_n1 lt_n1 ni0
    have hb_n3 := kp7.get hb_n3 lt_n3 ni0
    have hb_n4 := kp7.get hb_n4 lt_n4 ni0
    have A := A.keep kp7 nF0
    have lt_n1 := kp7.lt lt_n1
    have lt_n3 := kp7.lt lt_n3
    have lt_n4 := kp7.lt lt_n4
    have S7 := Sl.nilsl 1 h7
    have Z7 : Sl 2 h7 .nilsl [] (([] : List (Int × Int)).map le) := Sl.nilsl 2 h7
    have lt_n7 : n7.num < h7.next.num := by omega
    have nf_n1_S7 : n1 ∉ ([] : List P) := ni0
    have nf_n3_S7 : n3 ∉ ([] : List P) := ni0
    have nf_n4_S7 : n4 ∉ ([] : List P) := ni0
    have nf_n7_S7 : n7 ∉ ([] : List P) := ni0
    -- dj
    have nf_n1_Z7 : n1 ∉ ([] : List P) := ni0
    have nf_n3_Z7 : n3 ∉ ([] : List P) := ni0
    have nf_n4_Z7 : n4 ∉ ([] : List P) := ni0
    have nf_n7_Z7 : n7 ∉ ([] : List P) := ni0
    -- dj
    -- dj
    refine w_mv_ptr rfl ?_
    refine w_kp ?_
    refine w_nil ?_
    refine w_seq ?_
    refine w_reg ?_
    refine w_mv_int (evs' (gsn rfl (gsn rfl (gsn rfl (gsn rfl (gsn rfl (gsn rfl (gsn rfl rfl)))))))) ?_
    refine w_remp rfl rfl (by omega) (by omega) ?_
    refine w_i2i rfl (wr64 (by omega) (by omega)) ?_
    refine w_add rfl rfl (wr64 (by omega) (by omega)) ?_
    refine w_mv_int (evs' (gsn rfl gse)) ?_
    refine w_call (newIssuer_ok _ _ _ _ _ (by omega) (by omega) (fun n8 h8 hb_n8 kp8 nn8 hn8 => ?_))
    have nf_n8_A := A.new nn8
    have nf_n8_S7 := S7.new nn8
    have nf_n8_Z7 := Z7.new nn8
    have hb_n1 := kp8.get hb_n1 lt_n1 ni0
    have hb_n3 := kp8.get hb_n3 lt_n3 ni0
    have hb_n4 := kp8.get hb_n4 lt_n4 ni0
    have hb_n7 := kp8.get hb_n7 lt_n7 ni0
    have A := A.keep kp8 nF0
    have S7 := S7.keep kp8 nF0
    have Z7 := Z7.keep kp8 nF0
    have lt_n1 := kp8.lt lt_n1
    have lt_n3 := kp8.lt lt_n3
    have lt_n4 := kp8.lt lt_n4
    have lt_n7 := kp8.lt lt_n7
    have X8 : Sl 3 h8 .nilsl [] (([] : List Ent).map ge) := Sl.nilsl 3 h8
    have lt_n8 : n8.num < h8.next.num := by omega
    have nf_n1_X8 : n1 ∉ ([] : List P) := ni0
    have nf_n3_X8 : n3 ∉ ([] : List P) := ni0
    have nf_n4_X8 : n4 ∉ ([] : List P) := ni0
    have nf_n7_X8 : n7 ∉ ([] : List P) := ni0
    have nf_n8_X8 : n8 ∉ ([] : List P) := ni0
    have dj_A_X8 : ∀ x ∈ _, x ∉ ([] : List P) := nF0 (F := FA)
    have dj_X8_A : ∀ x ∈ ([] : List P), x ∉ FA := fun x hx => nomatch hx
    have dj_S7_X8 : ∀ x ∈ _, x ∉ ([] : List P) := nF0 (F := [])
    have dj_X8_S7 : ∀ x ∈ ([] : List P), x ∉ [] := fun x hx => nomatch hx
    have dj_Z7_X8 : ∀ x ∈ _, x ∉ ([] : List P) := nF0 (F := [])
    have dj_X8_Z7 : ∀ x ∈ ([] : List P), x ∉ [] := fun x hx => nomatch hx
    refine w_mv_tup rfl ?_
    refine w_eq rfl ?_
    refine w_eq rfl ?_
    refine w_mv_ptr rfl ?_
    refine w_kp ?_
    refine w_mv_nif rfl ?_
    refine w_kp ?_
    refine w_nil ?_
    refine w_seq ?_
    refine w_seq ?_
    refine w_reg ?_
    refine w_mv_nif (evs' gse) ?_
    refine w_eqv (t' := false) rfl rfl rfl rfl ?_
    refine w_kp ?_
    refine w_nil ?_
    refine w_cond (evs' gse) (fun hh => nomatch hh) (fun _ => ?_)
    refine w_skip ?_
    refine w_seq ?_
    refine w_reg ?_
    refine w_mv_nilsl rfl ?_
    refine w_kp ?_
    refine w_nil ?_
    refine w_seq ?_
    refine w_reg ?_
    refine w_mv_nilsl rfl ?_
    refine w_kp ?_
    refine w_nil ?_
    refine w_seq ?_
    refine w_reg ?_
    refine w_mv_int rfl ?_
    refine w_kp ?_
    refine w_nil ?_
    refine w_seq ?_
    refine w_seq ?_
    refine w_reg ?_
    refine w_mv_int rfl ?_
    refine w_kp ?_
    refine w_nil ?_
    refine w_block ?_
    have R0 := Sl.nilsl 1 h8
    have G0 := Sl.nilsl 3 h8
    have nf_n3_R0 : n3 ∉ ([] : List P) := ni0
    have nf_n3_G0 : n3 ∉ ([] : List P) := ni0
    have nf_n4_R0 : n4 ∉ ([] : List P) := ni0
    have nf_n4_G0 : n4 ∉ ([] : List P) := ni0
    have nf_n7_R0 : n7 ∉ ([] : List P) := ni0
    have nf_n7_G0 : n7 ∉ ([] : List P) := ni0
    have nf_n8_R0 : n8 ∉ ([] : List P) := ni0
    have nf_n8_G0 : n8 ∉ ([] : List P) := ni0
    have dj_S7_Z7 : ∀ x ∈ ([] : List P), x ∉ ([] : List P) := nF0
    have dj_S7_X8 : ∀ x ∈ ([] : List P), x ∉ ([] : List P) := nF0
    have dj_S7_R0 : ∀ x ∈ ([] : List P), x ∉ ([] : List P) := nF0
    have dj_S7_G0 : ∀ x ∈ ([] : List P), x ∉ ([] : List P) := nF0
    have dj_Z7_S7 : ∀ x ∈ ([] : List P), x ∉ ([] : List P) := nF0
    have dj_Z7_X8 : ∀ x ∈ ([] : List P), x ∉ ([] : List P) := nF0
    have dj_Z7_R0 : ∀ x ∈ ([] : List P), x ∉ ([] : List P) := nF0
    have dj_Z7_G0 : ∀ x ∈ ([] : List P), x ∉ ([] : List P) := nF0
    have dj_X8_S7 : ∀ x ∈ ([] : List P), x ∉ ([] : List P) := nF0
    have dj_X8_Z7 : ∀ x ∈ ([] : List P), x ∉ ([] : List P) := nF0
    have dj_X8_R0 : ∀ x ∈ ([] : List P), x ∉ ([] : List P) := nF0
    have dj_X8_G0 : ∀ x ∈ ([] : List P), x ∉ ([] : List P) := nF0
    have dj_R0_S7 : ∀ x ∈ ([] : List P), x ∉ ([] : List P) := nF0
    have dj_R0_Z7 : ∀ x ∈ ([] : List P), x ∉ ([] : List P) := nF0
    have dj_R0_X8 : ∀ x ∈ ([] : List P), x ∉ ([] : List P) := nF0
    have dj_R0_G0 : ∀ x ∈ ([] : List P), x ∉ ([] : List P) := nF0
    have dj_G0_S7 : ∀ x ∈ ([] : List P), x ∉ ([] : List P) := nF0
    have dj_G0_Z7 : ∀ x ∈ ([] : List P), x ∉ ([] : List P) := nF0
    have dj_G0_X8 : ∀ x ∈ ([] : List P), x ∉ ([] : List P) := nF0
    have dj_G0_R0 : ∀ x ∈ ([] : List P), x ∉ ([] : List P) := nF0
    have dj_A_S7 : ∀ x ∈ FA, x ∉ ([] : List P) := nF0
    have dj_A_Z7 : ∀ x ∈ FA, x ∉ ([] : List P) := nF0
    have dj_A_X8 : ∀ x ∈ FA, x ∉ ([] : List P) := nF0
    have dj_A_R0 : ∀ x ∈ FA, x ∉ ([] : List P) := nF0
    have dj_A_G0 : ∀ x ∈ FA, x ∉ ([] : List P) := nF0
    refine w_loop (fun kk fr hh => ∃ (i : Int) (t : Int) (th : Int) (gr : Int) (ti : Int) (vs : V) (FS : List P) (xs : List (List V)) (vl : V) (FZ : List P) (lea : List (Int × Int)) (vx : V) (FX : List P) (lx : List Ent) (vr : V) (FR : List P) (xr : List (List V)) (vg : V) (FG : List P) (xg : List (List V)), fr.get p1 = some (va) ∧ fr.get p7 = some (.ptr n3 0) ∧ fr.get p8 = some (.ptr n4 0) ∧ fr.get p10 = some (.ptr n7 0) ∧ fr.get p11 = some (.ptr n8 0) ∧ fr.get p13 = some (vr) ∧ fr.get p14 = some (vg) ∧ fr.get p15 = some (.int .i64 t) ∧ fr.get p16 = some (.int .i64 i) ∧ (0 ≤ i) ∧ (i + (kk : Int) = xa.length) ∧ (0 ≤ t) ∧ (t ≤ 600 * i) ∧ (0 ≤ th) ∧ (th ≤ (readF 7 na t)) ∧ (0 ≤ ti) ∧ (ti ≤ (readF 100 nb t)) ∧ (∀ e ∈ xs, ∃ y, e = [.int .i64 y]) ∧ (xs.length ≤ 16) ∧ (lea.length ≤ 16) ∧ (∀ e ∈ xr, ∃ s, e = [V.int .i64 s] ∧ Asked na t s) ∧ (∀ e ∈ xg, ∃ s n, e = [V.int .i64 s, .int .i64 n, .int .i64 (1 + lg % 2000)] ∧ 0 ≤ n ∧ Given1 na nb pp (1 + lg % 2000) t lx n s) ∧ (∀ y ∈ lea, ∃ s, y.2 = s - 1 + holdF (1 + lg % 2000) pp ∧ Given1 na nb pp (1 + lg % 2000) t lx y.1 s) ∧ ((xr.length : Int) ≤ i) ∧ ((xg.length : Int) ≤ i) ∧ ((lx.length : Int) ≤ i) ∧ (hh.get n3 = some (.cells [.int .i64 7, .int .i64 na, .int .i64 1000] false)) ∧ (n3.num < hh.next.num) ∧ (hh.get n4 = some (.cells [.int .i64 100, .int .i64 nb, .int .i64 1000] false)) ∧ (n4.num < hh.next.num) ∧ (hh.get n7 = some (.cells [.int .i64 pp, .int .i64 th, .int .i64 gr, vs, vl] false)) ∧ (n7.num < hh.next.num) ∧ (hh.get n8 = some (.cells [.int .i64 (1 + lg % 2000), .int .i64 pp, .int .i64 ti, vx] false)) ∧ (n8.num < hh.next.num) ∧ (Sl 1 hh vs FS xs) ∧ (Sl 2 hh vl FZ (lea.map le)) ∧ (Sl 3 hh vx FX (lx.map ge)) ∧ (Sl 1 hh vr FR xr) ∧ (Sl 3 hh vg FG xg) ∧ (Ar 4 hh va FA xa) ∧ (n3 ∉ FS) ∧ (n3 ∉ FZ) ∧ (n3 ∉ FX) ∧ (n3 ∉ FR) ∧ (n3 ∉ FG) ∧ (n3 ∉ FA) ∧ (n4 ∉ FS) ∧ (n4 ∉ FZ) ∧ (n4 ∉ FX) ∧ (n4 ∉ FR) ∧ (n4 ∉ FG) ∧ (n4 ∉ FA) ∧ (n7 ∉ FS) ∧ (n7 ∉ FZ) ∧ (n7 ∉ FX) ∧ (n7 ∉ FR) ∧ (n7 ∉ FG) ∧ (n7 ∉ FA) ∧ (n8 ∉ FS) ∧ (n8 ∉ FZ) ∧ (n8 ∉ FX) ∧ (n8 ∉ FR) ∧ (n8 ∉ FG) ∧ (n8 ∉ FA) ∧ (∀ x ∈ FS, x ∉ FZ) ∧ (∀ x ∈ FS, x ∉ FX) ∧ (∀ x ∈ FS, x ∉ FR) ∧ (∀ x ∈ FS, x ∉ FG) ∧ (∀ x ∈ FZ, x ∉ FS) ∧ (∀ x ∈ FZ, x ∉ FX) ∧ (∀ x ∈ FZ, x ∉ FR) ∧ (∀ x ∈ FZ, x ∉ FG) ∧ (∀ x ∈ FX, x ∉ FS) ∧ (∀ x ∈ FX, x ∉ FZ) ∧ (∀ x ∈ FX, x ∉ FR) ∧ (∀ x ∈ FX, x ∉ FG) ∧ (∀ x ∈ FR, x ∉ FS) ∧ (∀ x ∈ FR, x ∉ FZ) ∧ (∀ x ∈ FR, x ∉ FX) ∧ (∀ x ∈ FR, x ∉ FG) ∧ (∀ x ∈ FG, x ∉ FS) ∧ (∀ x ∈ FG, x ∉ FZ) ∧ (∀ x ∈ FG, x ∉ FX) ∧ (∀ x ∈ FG, x ∉ FR) ∧ (∀ x ∈ FA, x ∉ FS) ∧ (∀ x ∈ FA, x ∉ FZ) ∧ (∀ x ∈ FA, x ∉ FX) ∧ (∀ x ∈ FA, x ∉ FR) ∧ (∀ x ∈ FA, x ∉ FG)) (k := xa.length) (by omega) ⟨0, 0, 0, 0, 0, _, _, [], _, _, [], _, _, [], _, _, [], _, _, [], (gsn rfl (gsn rfl (gsn rfl (gsn rfl (gsn rfl (gsn rfl (gsn rfl (gsn rfl (gsn rfl (gsn rfl (gsn rfl (gsn rfl (gsn rfl (gsn rfl rfl)))))))))))))), (gsn rfl (gsn rfl (gsn rfl (gsn rfl (gsn rfl (gsn rfl (gsn rfl (gsn rfl (gsn rfl (gsn rfl gse)))))))))), (gsn rfl (gsn rfl (gsn rfl (gsn rfl (gsn rfl (gsn rfl (gsn rfl (gsn rfl (gsn rfl gse))))))))), (gsn rfl (gsn rfl (gsn rfl (gsn rfl (gsn rfl (gsn rfl (gsn rfl gse))))))), (gsn rfl (gsn rfl (gsn rfl (gsn rfl (gsn rfl (gsn rfl gse)))))), (gsn rfl (gsn rfl (gsn rfl gse))), (gsn rfl (gsn rfl gse)), (gsn rfl gse), gse, (by omega), (by omega), (by omega), (by omega), (by omega), (by unfold readF; omega), (by omega), (by unfold readF; omega), (fun e he => nomatch he), (by simp), (by simp), (fun e he => nomatch he), (fun e he => nomatch he), (fun e he => nomatch he), (by simp), (by simp), (by simp), hb_n3, lt_n3, hb_n4, lt_n4, hb_n7, lt_n7, hb_n8, lt_n8, S7, Z7, X8, R0, G0, A, nf_n3_S7, nf_n3_Z7, nf_n3_X8, nf_n3_R0, nf_n3_G0, nf_n3_A, nf_n4_S7, nf_n4_Z7, nf_n4_X8, nf_n4_R0, nf_n4_G0, nf_n4_A, nf_n7_S7, nf_n7_Z7, nf_n7_X8, nf_n7_R0, nf_n7_G0, nf_n7_A, nf_n8_S7, nf_n8_Z7, nf_n8_X8, nf_n8_R0, nf_n8_G0, nf_n8_A, dj_S7_Z7, dj_S7_X8, dj_S7_R0, dj_S7_G0, dj_Z7_S7, dj_Z7_X8, dj_Z7_R0, dj_Z7_G0, dj_X8_S7, dj_X8_Z7, dj_X8_R0, dj_X8_G0, dj_R0_S7, dj_R0_Z7, dj_R0_X8, dj_R0_G0, dj_G0_S7, dj_G0_Z7, dj_G0_X8, dj_G0_R0, dj_A_S7, dj_A_Z7, dj_A_X8, dj_A_R0, dj_A_G0⟩ ?_
    refine fun kk fr hh => ex_i fun i => ex_i fun t => ex_i fun th => ex_i fun gr => ex_i fun ti => ex_i fun vs => ex_i fun FS => ex_i fun xs => ex_i fun vl => ex_i fun FZ => ex_i fun lea => ex_i fun vx => ex_i fun FX => ex_i fun lx => ex_i fun vr => ex_i fun FR => ex_i fun xr => ex_i fun vg => ex_i fun FG => ex_i fun xg => and_i fun f_p1 => and_i fun f_p7 => and_i fun f_p8 => and_i fun f_p10 => and_i fun f_p11 => and_i fun f_p13 => and_i fun f_p14 => and_i fun f_p15 => and_i fun f_p16 => and_i fun hi => and_i fun hk => and_i fun htt0 => and_i fun htt1 => and_i fun hth0 => and_i fun hth1 => and_i fun hti0 => and_i fun hti1 => and_i fun hu => and_i fun hlu => and_i fun hls => and_i fun hR => and_i fun hG => and_i fun hZ => and_i fun hlr => and_i fun hlg2 => and_i fun hlx => and_i fun hb_n3 => and_i fun lt_n3 => and_i fun hb_n4 => and_i fun lt_n4 => and_i fun hb_n7 => and_i fun lt_n7 => and_i fun hb_n8 => and_i fun lt_n8 => and_i fun S => and_i fun Z => and_i fun X => and_i fun R => and_i fun G => and_i fun A => and_i fun nf_n3_S => and_i fun nf_n3_Z => and_i fun nf_n3_X => and_i fun nf_n3_R => and_i fun nf_n3_G => and_i fun nf_n3_A => and_i fun nf_n4_S => and_i fun nf_n4_Z => and_i fun nf_n4_X => and_i fun nf_n4_R => and_i fun nf_n4_G => and_i fun nf_n4_A => and_i fun nf_n7_S => and_i fun nf_n7_Z => and_i fun nf_n7_X => and_i fun nf_n7_R => and_i fun nf_n7_G => and_i fun nf_n7_A => and_i fun nf_n8_S => and_i fun nf_n8_Z => and_i fun nf_n8_X => and_i fun nf_n8_R => and_i fun nf_n8_G => and_i fun nf_n8_A => and_i fun dj_S_Z => and_i fun dj_S_X => and_i fun dj_S_R => and_i fun dj_S_G => and_i fun dj_Z_S => and_i fun dj_Z_X => and_i fun dj_Z_R => and_i fun dj_Z_G => and_i fun dj_X_S => and_i fun dj_X_Z => and_i fun dj_X_R => and_i fun dj_X_G => and_i fun dj_R_S => and_i fun dj_R_Z => and_i fun dj_R_X => and_i fun dj_R_G => and_i fun dj_G_S => and_i fun dj_G_Z => and_i fun dj_G_X => and_i fun dj_G_R => and_i fun dj_A_S => and_i fun dj_A_Z => and_i fun dj_A_X => and_i fun dj_A_R => fun dj_A_G => ?_
    refine w_seq ?_
    refine w_seq ?_
    refine w_reg ?_
    refine w_mv_int (evs' f_p16) ?_
    refine w_mv (evs' f_p1) ?_
    refine w_ar_len A rfl ?_
    refine w_lt rfl rfl (fun c2 => ?_) (fun c2 => ?_)
    ·
      refine w_kp ?_
      refine w_nil ?_
      refine w_cond (evs' gse) (fun _ => ?_) (fun hh => nomatch hh)
      refine w_skip ?_
      refine w_seq ?_
      refine w_block ?_
      refine w_seq ?_
      refine w_reg ?_
      refine w_mv (evs' (gsn rfl f_p1)) ?_
      refine w_mv_int (evs' (gsn rfl f_p16)) ?_
      refine w_ar_ix A rfl rfl (by omega) (by omega) (fun s9 o9 cs9 e9 ro9 hs9 he9 ht9 hf9 => ?_)
      obtain ⟨k9, p9, g9, n9v, rfl, hk9, hp9, hg9, hn9v⟩ := eA _ (List.mem_of_getElem? he9)
      have hmA : readF 7 na t ≤ readF 7 na (t + g9 % 600) := readF_mono (by omega) (by omega)
      have hmB : readF 100 nb t ≤ readF 100 nb (t + g9 % 600) := readF_mono (by omega) (by omega)
      have hMA : readF 7 na (t + g9 % 600) ≤ 1000000 := by have := mul_range (a := (t + g9 % 600)) (A := 36000) (b := na) (B := 1100) (by omega) (by omega) (by omega) (by omega); unfold readF; omega
      have hMB : readF 100 nb (t + g9 % 600) ≤ 1000000 := by have := mul_range (a := (t + g9 % 600)) (A := 36000) (b := nb) (B := 1100) (by omega) (by omega) (by omega) (by omega); unfold readF; omega
      refine w_ldn rfl hs9 ht9 ?_
      refine m_alloc (fun n10 h10 hb_n10 kp10 nn10 hn10 => ?_)
      have nf_n10_S := S.new nn10
      have nf_n10_Z := Z.new nn10
      have nf_n10_X := X.new nn10
      have nf_n10_R := R.new nn10
      have nf_n10_G := G.new nn10
      have nf_n10_A := A.new nn10
      have hs9 := kp10.get hs9 (A.lt _ hf9) (nF0 _ hf9)
      have hb_n3 := kp10.get hb_n3 lt_n3 ni0
      have hb_n4 := kp10.get hb_n4 lt_n4 ni0
      have hb_n7 := kp10.get hb_n7 lt_n7 ni0
      have hb_n8 := kp10.get hb_n8 lt_n8 ni0
      have S := S.keep kp10 nF0
      have Z := Z.keep kp10 nF0
      have X := X.keep kp10 nF0
      have R := R.keep kp10 nF0
      have G := G.keep kp10 nF0
      have A := A.keep kp10 nF0
      have lt_n3 := kp10.lt lt_n3
      have lt_n4 := kp10.lt lt_n4
      have lt_n7 := kp10.lt lt_n7
      have lt_n8 := kp10.lt lt_n8
      have lt_n10 : n10.num < h10.next.num := by omega
      refine w_kp ?_
      refine m_st_agg hb_n10 rfl rfl rfl rfl (fun h11 hq kp11 => ?_)
      have hs9 := kp11.get hs9 (A.lt _ hf9) ((nF1 nf_n10_A) _ hf9)
      have hb_n3 := kp11.get hb_n3 lt_n3 (ni1 (by omega))
      have hb_n4 := kp11.get hb_n4 lt_n4 (ni1 (by omega))
      have hb_n7 := kp11.get hb_n7 lt_n7 (ni1 (by omega))
      have hb_n8 := kp11.get hb_n8 lt_n8 (ni1 (by omega))
      have S := S.keep kp11 (nF1 nf_n10_S)
      have Z := Z.keep kp11 (nF1 nf_n10_Z)
      have X := X.keep kp11 (nF1 nf_n10_X)
      have R := R.keep kp11 (nF1 nf_n10_R)
      have G := G.keep kp11 (nF1 nf_n10_G)
      have A := A.keep kp11 (nF1 nf_n10_A)
      have lt_n3 := kp11.lt lt_n3
      have lt_n4 := kp11.lt lt_n4
      have lt_n7 := kp11.lt lt_n7
      have lt_n8 := kp11.lt lt_n8
      have lt_n10 := kp11.lt lt_n10
      have hb_n10 := hq
      refine w_nil ?_
      refine w_seq ?_
      refine w_reg ?_
      refine w_mv_int (evs' (gsn rfl (gsn rfl f_p15))) ?_
      refine w_fa (evs' gse) ?_
      refine w_ld rfl hb_n10 rfl ?_
      refine w_remp rfl rfl (by omega) (by omega) ?_
      refine w_i2i rfl (wr64 (by omega) (by omega)) ?_
      refine w_add rfl rfl (wr64 (by omega) (by omega)) ?_
      refine w_mv_int rfl ?_
      refine w_kp ?_
      refine w_nil ?_
      refine w_seq ?_
      refine w_reg ?_
      refine w_ldn (evs' (gsn rfl (gsn rfl (gsn rfl f_p7)))) hb_n3 rfl ?_
      refine w_mv_int (evs' gse) ?_
      refine w_call (read_ok _ _ _ _ _ _ (by omega) (by omega) (by omega) (by omega) (by omega) (by omega) (fun h12 kp12 => ?_))
      have hb_n3 := kp12.get hb_n3 lt_n3 ni0
      have hb_n4 := kp12.get hb_n4 lt_n4 ni0
      have hb_n7 := kp12.get hb_n7 lt_n7 ni0
      have hb_n8 := kp12.get hb_n8 lt_n8 ni0
      have hb_n10 := kp12.get hb_n10 lt_n10 ni0
      have S := S.keep kp12 nF0
      have Z := Z.keep kp12 nF0
      have X := X.keep kp12 nF0
      have R := R.keep kp12 nF0
      have G := G.keep kp12 nF0
      have A := A.keep kp12 nF0
      have lt_n3 := kp12.lt lt_n3
      have lt_n4 := kp12.lt lt_n4
      have lt_n7 := kp12.lt lt_n7
      have lt_n8 := kp12.lt lt_n8
      have lt_n10 := kp12.lt lt_n10
      refine w_mv_tup rfl ?_
      refine w_eq rfl ?_
      refine w_eq rfl ?_
      refine w_mv_int rfl ?_
      refine w_kp ?_
      refine w_mv_nif rfl ?_
      refine w_kp ?_
      refine w_nil ?_
      refine w_seq ?_
      refine w_reg ?_
      refine w_ldn (evs' (gsn rfl (gsn rfl (gsn rfl (gsn rfl (gsn rfl f_p8)))))) hb_n4 rfl ?_
      refine w_mv_int (evs' (gsn rfl (gsn rfl gse))) ?_
      refine w_call (read_ok _ _ _ _ _ _ (by omega) (by omega) (by omega) (by omega) (by omega) (by omega) (fun h13 kp13 => ?_))
      have hb_n3 := kp13.get hb_n3 lt_n3 ni0
      have hb_n4 := kp13.get hb_n4 lt_n4 ni0
      have hb_n7 := kp13.get hb_n7 lt_n7 ni0
      have hb_n8 := kp13.get hb_n8 lt_n8 ni0
      have hb_n10 := kp13.get hb_n10 lt_n10 ni0
      have S := S.keep kp13 nF0
      have Z := Z.keep kp13 nF0
      have X := X.keep kp13 nF0
      have R := R.keep kp13 nF0
      have G := G.keep kp13 nF0
      have A := A.keep kp13 nF0
      have lt_n3 := kp13.lt lt_n3
      have lt_n4 := kp13.lt lt_n4
      have lt_n7 := kp13.lt lt_n7
      have lt_n8 := kp13.lt lt_n8
      have lt_n10 := kp13.lt lt_n10
      refine w_mv_tup rfl ?_
      refine w_eq rfl ?_
      refine w_eq rfl ?_
      refine w_mv_int rfl ?_
      refine w_kp ?_
      refine w_mv_nif rfl ?_
      refine w_kp ?_
      refine w_nil ?_
      refine w_seq ?_
      refine w_seq ?_
      refine w_reg ?_
      refine w_mv_nif (evs' (gsn rfl (gsn rfl gse))) ?_
      refine w_eqv (t' := false) rfl rfl rfl rfl ?_
      refine w_mv_bool rfl ?_
      refine w_gop rfl (fun _ => ?_) (fun hh => nomatch hh)
      refine w_mv_nif (evs' gse) ?_
      refine w_gop rfl (fun _ => ?_) (fun hh => nomatch hh)
      refine w_eqv (t' := false) rfl rfl rfl rfl ?_
      refine w_pick rfl (fun hh => nomatch hh) (fun _ => ?_)
      refine w_mv_bool rfl ?_
      refine w_kp ?_
      refine w_nil ?_
      refine w_cond (evs' gse) (fun hh => nomatch hh) (fun _ => ?_)
      refine w_skip ?_
      refine w_seq ?_
      refine w_seq ?_
      refine w_reg ?_
      refine w_fa (evs' (gsn rfl (gsn rfl (gsn rfl (gsn rfl (gsn rfl (gsn rfl gse))))))) ?_
      refine w_ld rfl hb_n10 rfl ?_
      refine w_remp rfl rfl (by omega) (by omega) ?_
      refine w_kp ?_
      refine w_nil ?_
      refine w_block ?_
      refine w_seq ?_
      refine w_reg ?_
      refine w_ieq (evs' gse) rfl (fun c3 => ?_) (fun c3 => ?_)
      ·
        refine w_mv_bool rfl ?_
        refine w_kp ?_
        refine w_nil ?_
        refine w_cond (evs' gse) (fun _ => ?_) (fun hh => nomatch hh)
        refine w_seq ?_
        refine w_reg ?_
        refine w_mv_ptr (evs' (gsn rfl (gsn rfl (gsn rfl (gsn rfl (gsn rfl (gsn rfl (gsn rfl (gsn rfl (gsn rfl (gsn rfl f_p10))))))))))) ?_
        refine w_mv_int (evs' (gsn rfl (gsn rfl (gsn rfl (gsn rfl (gsn rfl (gsn rfl gse))))))) ?_
        refine w_call (ask_ok _ _ _ n7 _ _ _ _ _ _ _ _ hb_n7 S nf_n7_S lt_n7 (by omega) (by omega) (by omega) (fun h14 hc14 hq Sq kp14 => ?_) (fun h14 vs14 F14 xs14 hc14 hq kp14 Sq hx14 hf14 => ?_))
        ·
          have hb_n3 := kp14.get hb_n3 lt_n3 (ni1 (by omega))
          have hb_n4 := kp14.get hb_n4 lt_n4 (ni1 (by omega))
          have hb_n8 := kp14.get hb_n8 lt_n8 (ni1 (by omega))
          have hb_n10 := kp14.get hb_n10 lt_n10 (ni1 (by omega))
          have Z := Z.keep kp14 (nF1 nf_n7_Z)
          have X := X.keep kp14 (nF1 nf_n7_X)
          have R := R.keep kp14 (nF1 nf_n7_R)
          have G := G.keep kp14 (nF1 nf_n7_G)
          have A := A.keep kp14 (nF1 nf_n7_A)
          have lt_n3 := kp14.lt lt_n3
          have lt_n4 := kp14.lt lt_n4
          have lt_n7 := kp14.lt lt_n7
          have lt_n8 := kp14.lt lt_n8
          have lt_n10 := kp14.lt lt_n10
          have hb_n7 := hq
          have S := Sq
          have hr : rd (readF 7 na (t + g9 % 600)) th = (readF 7 na (t + g9 % 600)) := by unfold rd; omega
          rw [hr] at hb_n7
          refine w_mv_int rfl ?_
          refine w_kp ?_
          refine w_nil ?_
          refine w_seq ?_
          refine w_reg ?_
          refine w_mv_int (evs' gse) ?_
          refine w_gt rfl rfl (fun c4 => by omega) (fun c4 => ?_)
          refine w_kp ?_
          refine w_nil ?_
          refine w_cond (evs' gse) (fun hh => nomatch hh) (fun _ => ?_)
          refine w_skip ?_
          refine w_seq ?_
          refine w_reg ?_
          refine w_mv_int rfl ?_
          refine w_kp ?_
          refine w_nil ?_
          refine w_block ?_
          obtain ⟨kk0, hkk0⟩ : ∃ q, q = kk := ⟨kk, rfl⟩
          have htt : t ≤ (t + g9 % 600) := by omega
          have hR9 : ∀ e ∈ xr, ∃ s, e = [V.int .i64 s] ∧ Asked na (t + g9 % 600) s := fun e he => let ⟨s, a, b⟩ := hR e he; ⟨s, a, b.le htt⟩
          have hG9 : ∀ e ∈ xg, ∃ s n, e = [V.int .i64 s, .int .i64 n, .int .i64 (1 + lg % 2000)] ∧ 0 ≤ n ∧ Given1 na nb pp (1 + lg % 2000) (t + g9 % 600) lx n s := fun e he => let ⟨s, n, a, b, c⟩ := hG e he; ⟨s, n, a, b, (c.le htt)⟩
          have hZ9 : ∀ y ∈ lea, ∃ s, y.2 = s - 1 + holdF (1 + lg % 2000) pp ∧ Given1 na nb pp (1 + lg % 2000) (t + g9 % 600) lx y.1 s := fun y hy => let ⟨s, a, b⟩ := hZ y hy; ⟨s, a, (b.le htt)⟩
          refine w_loop (fun kk fr hh => ∃ (ap : Int) (th2 : Int) (gr2 : Int) (ti2 : Int), fr.get p1 = some (va) ∧ fr.get p7 = some (.ptr n3 0) ∧ fr.get p8 = some (.ptr n4 0) ∧ fr.get p10 = some (.ptr n7 0) ∧ fr.get p11 = some (.ptr n8 0) ∧ fr.get p13 = some (vr) ∧ fr.get p14 = some (vg) ∧ fr.get p15 = some (.int .i64 (t + g9 % 600)) ∧ fr.get p16 = some (.int .i64 i) ∧ fr.get p18 = some (.int .i64 (readF 7 na (t + g9 % 600))) ∧ fr.get p20 = some (.int .i64 (readF 100 nb (t + g9 % 600))) ∧ fr.get p25 = some (.int .i64 ap) ∧ (0 ≤ ap) ∧ (ap + (kk : Int) = 8) ∧ (0 ≤ th2) ∧ (th2 ≤ (readF 7 na (t + g9 % 600))) ∧ (0 ≤ ti2) ∧ (ti2 ≤ (readF 100 nb (t + g9 % 600))) ∧ (hh.get n3 = some (.cells [.int .i64 7, .int .i64 na, .int .i64 1000] false)) ∧ (n3.num < hh.next.num) ∧ (hh.get n4 = some (.cells [.int .i64 100, .int .i64 nb, .int .i64 1000] false)) ∧ (n4.num < hh.next.num) ∧ (hh.get n7 = some (.cells [.int .i64 pp, .int .i64 th2, .int .i64 gr2, vs, vl] false)) ∧ (n7.num < hh.next.num) ∧ (hh.get n8 = some (.cells [.int .i64 (1 + lg % 2000), .int .i64 pp, .int .i64 ti2, vx] false)) ∧ (n8.num < hh.next.num) ∧ (Sl 1 hh vs FS xs) ∧ (Sl 2 hh vl FZ (lea.map le)) ∧ (Sl 3 hh vx FX (lx.map ge)) ∧ (Sl 1 hh vr FR xr) ∧ (Sl 3 hh vg FG xg) ∧ (Ar 4 hh va FA xa) ∧ (n3 ∉ FS) ∧ (n3 ∉ FZ) ∧ (n3 ∉ FX) ∧ (n3 ∉ FR) ∧ (n3 ∉ FG) ∧ (n3 ∉ FA) ∧ (n4 ∉ FS) ∧ (n4 ∉ FZ) ∧ (n4 ∉ FX) ∧ (n4 ∉ FR) ∧ (n4 ∉ FG) ∧ (n4 ∉ FA) ∧ (n7 ∉ FS) ∧ (n7 ∉ FZ) ∧ (n7 ∉ FX) ∧ (n7 ∉ FR) ∧ (n7 ∉ FG) ∧ (n7 ∉ FA) ∧ (n8 ∉ FS) ∧ (n8 ∉ FZ) ∧ (n8 ∉ FX) ∧ (n8 ∉ FR) ∧ (n8 ∉ FG) ∧ (n8 ∉ FA) ∧ (∀ x ∈ FS, x ∉ FZ) ∧ (∀ x ∈ FS, x ∉ FX) ∧ (∀ x ∈ FS, x ∉ FR) ∧ (∀ x ∈ FS, x ∉ FG) ∧ (∀ x ∈ FZ, x ∉ FS) ∧ (∀ x ∈ FZ, x ∉ FX) ∧ (∀ x ∈ FZ, x ∉ FR) ∧ (∀ x ∈ FZ, x ∉ FG) ∧ (∀ x ∈ FX, x ∉ FS) ∧ (∀ x ∈ FX, x ∉ FZ) ∧ (∀ x ∈ FX, x ∉ FR) ∧ (∀ x ∈ FX, x ∉ FG) ∧ (∀ x ∈ FR, x ∉ FS) ∧ (∀ x ∈ FR, x ∉ FZ) ∧ (∀ x ∈ FR, x ∉ FX) ∧ (∀ x ∈ FR, x ∉ FG) ∧ (∀ x ∈ FG, x ∉ FS) ∧ (∀ x ∈ FG, x ∉ FZ) ∧ (∀ x ∈ FG, x ∉ FX) ∧ (∀ x ∈ FG, x ∉ FR) ∧ (∀ x ∈ FA, x ∉ FS) ∧ (∀ x ∈ FA, x ∉ FZ) ∧ (∀ x ∈ FA, x ∉ FX) ∧ (∀ x ∈ FA, x ∉ FR) ∧ (∀ x ∈ FA, x ∉ FG)) (k := 8) (by omega) ⟨0, _, _, _, (gsn rfl (gsn rfl (gsn rfl (gsn rfl (gsn rfl (gsn rfl (gsn rfl (gsn rfl (gsn rfl (gsn rfl (gsn rfl (gsn rfl (gsn rfl f_p1))))))))))))), (gsn rfl (gsn rfl (gsn rfl (gsn rfl (gsn rfl (gsn rfl (gsn rfl (gsn rfl (gsn rfl (gsn rfl (gsn rfl (gsn rfl (gsn rfl f_p7))))))))))))), (gsn rfl (gsn rfl (gsn rfl (gsn rfl (gsn rfl (gsn rfl (gsn rfl (gsn rfl (gsn rfl (gsn rfl (gsn rfl (gsn rfl (gsn rfl f_p8))))))))))))), (gsn rfl (gsn rfl (gsn rfl (gsn rfl (gsn rfl (gsn rfl (gsn rfl (gsn rfl (gsn rfl (gsn rfl (gsn rfl (gsn rfl (gsn rfl f_p10))))))))))))), (gsn rfl (gsn rfl (gsn rfl (gsn rfl (gsn rfl (gsn rfl (gsn rfl (gsn rfl (gsn rfl (gsn rfl (gsn rfl (gsn rfl (gsn rfl f_p11))))))))))))), (gsn rfl (gsn rfl (gsn rfl (gsn rfl (gsn rfl (gsn rfl (gsn rfl (gsn rfl (gsn rfl (gsn rfl (gsn rfl (gsn rfl (gsn rfl f_p13))))))))))))), (gsn rfl (gsn rfl (gsn rfl (gsn rfl (gsn rfl (gsn rfl (gsn rfl (gsn rfl (gsn rfl (gsn rfl (gsn rfl (gsn rfl (gsn rfl f_p14))))))))))))), (gsn rfl (gsn rfl (gsn rfl (gsn rfl (gsn rfl (gsn rfl (gsn rfl (gsn rfl (gsn rfl (gsn rfl gse)))))))))), (gsn rfl (gsn rfl (gsn rfl (gsn rfl (gsn rfl (gsn rfl (gsn rfl (gsn rfl (gsn rfl (gsn rfl (gsn rfl (gsn rfl (gsn rfl f_p16))))))))))))), (gsn rfl (gsn rfl (gsn rfl (gsn rfl (gsn rfl (gsn rfl (gsn rfl (gsn rfl (gsn rfl gse))))))))), (gsn rfl (gsn rfl (gsn rfl (gsn rfl (gsn rfl (gsn rfl (gsn rfl gse))))))), gse, (by omega), (by omega), (by omega), (by omega), (by omega), (by omega), hb_n3, lt_n3, hb_n4, lt_n4, hb_n7, lt_n7, hb_n8, lt_n8, S, Z, X, R, G, A, nf_n3_S, nf_n3_Z, nf_n3_X, nf_n3_R, nf_n3_G, nf_n3_A, nf_n4_S, nf_n4_Z, nf_n4_X, nf_n4_R, nf_n4_G, nf_n4_A, nf_n7_S, nf_n7_Z, nf_n7_X, nf_n7_R, nf_n7_G, nf_n7_A, nf_n8_S, nf_n8_Z, nf_n8_X, nf_n8_R, nf_n8_G, nf_n8_A, dj_S_Z, dj_S_X, dj_S_R, dj_S_G, dj_Z_S, dj_Z_X, dj_Z_R, dj_Z_G, dj_X_S, dj_X_Z, dj_X_R, dj_X_G, dj_R_S, dj_R_Z, dj_R_X, dj_R_G, dj_G_S, dj_G_Z, dj_G_X, dj_G_R, dj_A_S, dj_A_Z, dj_A_X, dj_A_R, dj_A_G⟩ ?_
          refine fun kk fr hh => ex_i fun ap => ex_i fun th2 => ex_i fun gr2 => ex_i fun ti2 => and_i fun f_p1 => and_i fun f_p7 => and_i fun f_p8 => and_i fun f_p10 => and_i fun f_p11 => and_i fun f_p13 => and_i fun f_p14 => and_i fun f_p15 => and_i fun f_p16 => and_i fun f_p18 => and_i fun f_p20 => and_i fun f_p25 => and_i fun hap0 => and_i fun hap1 => and_i fun hth2 => and_i fun hth3 => and_i fun hti2 => and_i fun hti3 => and_i fun hb_n3 => and_i fun lt_n3 => and_i fun hb_n4 => and_i fun lt_n4 => and_i fun hb_n7 => and_i fun lt_n7 => and_i fun hb_n8 => and_i fun lt_n8 => and_i fun S => and_i fun Z => and_i fun X => and_i fun R => and_i fun G => and_i fun A => and_i fun nf_n3_S => and_i fun nf_n3_Z => and_i fun nf_n3_X => and_i fun nf_n3_R => and_i fun nf_n3_G => and_i fun nf_n3_A => and_i fun nf_n4_S => and_i fun nf_n4_Z => and_i fun nf_n4_X => and_i fun nf_n4_R => and_i fun nf_n4_G => and_i fun nf_n4_A => and_i fun nf_n7_S => and_i fun nf_n7_Z => and_i fun nf_n7_X => and_i fun nf_n7_R => and_i fun nf_n7_G => and_i fun nf_n7_A => and_i fun nf_n8_S => and_i fun nf_n8_Z => and_i fun nf_n8_X => and_i fun nf_n8_R => and_i fun nf_n8_G => and_i fun nf_n8_A => and_i fun dj_S_Z => and_i fun dj_S_X => and_i fun dj_S_R => and_i fun dj_S_G => and_i fun dj_Z_S => and_i fun dj_Z_X => and_i fun dj_Z_R => and_i fun dj_Z_G => and_i fun dj_X_S => and_i fun dj_X_Z => and_i fun dj_X_R => and_i fun dj_X_G => and_i fun dj_R_S => and_i fun dj_R_Z => and_i fun dj_R_X => and_i fun dj_R_G => and_i fun dj_G_S => and_i fun dj_G_Z => and_i fun dj_G_X => and_i fun dj_G_R => and_i fun dj_A_S => and_i fun dj_A_Z => and_i fun dj_A_X => and_i fun dj_A_R => fun dj_A_G => ?_
          refine w_seq ?_
          refine w_seq ?_
          refine w_reg ?_
          refine w_mv_int (evs' f_p25) ?_
          refine w_lt rfl rfl (fun c5 => ?_) (fun c5 => ?_)
          ·
            refine w_kp ?_
            refine w_nil ?_
            refine w_cond (evs' gse) (fun _ => ?_) (fun hh => nomatch hh)
            refine w_skip ?_
            refine w_seq ?_
            refine w_block ?_
            refine w_seq ?_
            refine w_reg ?_
            refine w_mv_ptr (evs' (gsn rfl f_p10)) ?_
            refine w_mv_int (evs' (gsn rfl f_p18)) ?_
            refine w_mv_int (evs' (gsn rfl f_p25)) ?_
            refine w_call (holds_ok _ _ _ n7 _ _ _ _ _ _ _ _ _ hb_n7 Z nf_n7_Z lt_n7 (by omega) (by omega) (fun h15 t15 ho15 hq Sq kp15 => ?_))
            have hb_n3 := kp15.get hb_n3 lt_n3 (ni1 (by omega))
            have hb_n4 := kp15.get hb_n4 lt_n4 (ni1 (by omega))
            have hb_n8 := kp15.get hb_n8 lt_n8 (ni1 (by omega))
            have S := S.keep kp15 (nF1 nf_n7_S)
            have X := X.keep kp15 (nF1 nf_n7_X)
            have R := R.keep kp15 (nF1 nf_n7_R)
            have G := G.keep kp15 (nF1 nf_n7_G)
            have A := A.keep kp15 (nF1 nf_n7_A)
            have lt_n3 := kp15.lt lt_n3
            have lt_n4 := kp15.lt lt_n4
            have lt_n7 := kp15.lt lt_n7
            have lt_n8 := kp15.lt lt_n8
            have hr : rd (readF 7 na (t + g9 % 600)) th2 = (readF 7 na (t + g9 % 600)) := by unfold rd; omega
            have hmx : max ap 0 = ap := by omega
            rw [hr] at hq ho15
            rw [hmx] at ho15
            have hb_n7 := hq
            have Z := Sq
            cases t15
            ·
              refine w_mv_bool rfl ?_
              refine w_gop rfl (fun hh => nomatch hh) (fun _ => ?_)
              refine w_gop rfl (fun hh => nomatch hh) (fun _ => ?_)
              refine w_gop rfl (fun hh => nomatch hh) (fun _ => ?_)
              refine w_gop rfl (fun hh => nomatch hh) (fun _ => ?_)
              refine w_gcall rfl (fun hh => nomatch hh) (fun _ => ?_)
              refine w_pick rfl (fun hh => nomatch hh) (fun _ => ?_)
              refine w_mv_bool rfl ?_
              refine w_kp ?_
              refine w_nil ?_
              refine w_cond (evs' gse) (fun hh => nomatch hh) (fun _ => ?_)
              refine w_skip ?_
              refine w_reg ?_
              refine w_mv_int (evs' (gsn rfl (gsn rfl f_p25))) ?_
              refine w_add rfl rfl (wr64 (by omega) (by omega)) ?_
              refine w_mv_int rfl ?_
              refine w_kp ?_
              refine w_nil ?_
              exact ⟨kk - 1, by omega, ap + 1, _, _, _, (gsn rfl (gsn rfl (gsn rfl f_p1))), (gsn rfl (gsn rfl (gsn rfl f_p7))), (gsn rfl (gsn rfl (gsn rfl f_p8))), (gsn rfl (gsn rfl (gsn rfl f_p10))), (gsn rfl (gsn rfl (gsn rfl f_p11))), (gsn rfl (gsn rfl (gsn rfl f_p13))), (gsn rfl (gsn rfl (gsn rfl f_p14))), (gsn rfl (gsn rfl (gsn rfl f_p15))), (gsn rfl (gsn rfl (gsn rfl f_p16))), (gsn rfl (gsn rfl (gsn rfl f_p18))), (gsn rfl (gsn rfl (gsn rfl f_p20))), gse, (by omega), (by omega), (by omega), (by omega), (by omega), (by omega), hb_n3, lt_n3, hb_n4, lt_n4, hb_n7, lt_n7, hb_n8, lt_n8, S, Z, X, R, G, A, nf_n3_S, nf_n3_Z, nf_n3_X, nf_n3_R, nf_n3_G, nf_n3_A, nf_n4_S, nf_n4_Z, nf_n4_X, nf_n4_R, nf_n4_G, nf_n4_A, nf_n7_S, nf_n7_Z, nf_n7_X, nf_n7_R, nf_n7_G, nf_n7_A, nf_n8_S, nf_n8_Z, nf_n8_X, nf_n8_R, nf_n8_G, nf_n8_A, dj_S_Z, dj_S_X, dj_S_R, dj_S_G, dj_Z_S, dj_Z_X, dj_Z_R, dj_Z_G, dj_X_S, dj_X_Z, dj_X_R, dj_X_G, dj_R_S, dj_R_Z, dj_R_X, dj_R_G, dj_G_S, dj_G_Z, dj_G_X, dj_G_R, dj_A_S, dj_A_Z, dj_A_X, dj_A_R, dj_A_G⟩
            ·
              have ho15 := of_decide_eq_true ho15.symm
              refine w_mv_bool rfl ?_
              refine w_gop rfl (fun _ => ?_) (fun hh => nomatch hh)
              refine w_mv_ptr (evs' (gsn rfl f_p11)) ?_
              refine w_gop rfl (fun _ => ?_) (fun hh => nomatch hh)
              refine w_mv_int (evs' (gsn rfl f_p25)) ?_
              refine w_gop rfl (fun _ => ?_) (fun hh => nomatch hh)
              refine w_add rfl rfl (wr64 (by omega) (by omega)) ?_
              refine w_gop rfl (fun _ => ?_) (fun hh => nomatch hh)
              refine w_mv_int (evs' (gsn rfl f_p20)) ?_
              refine w_gcall rfl (fun _ => ?_) (fun hh => nomatch hh)
              refine w_call (free_ok _ _ _ n8 _ _ _ _ _ _ _ _ _ hb_n8 X nf_n8_X lt_n8 (by omega) (by omega) (fun h16 hfr16 hq Sq kp16 => ?_) (fun h16 hfr16 hq Sq kp16 => ?_))
              ·
                have hr : rd (readF 100 nb (t + g9 % 600)) ti2 = (readF 100 nb (t + g9 % 600)) := by unfold rd; omega
                rw [hr] at hfr16
                obtain ⟨y, hy, hbl⟩ := safe_law hp0 hp1 hna0 hnb1 (by omega) (by omega) (by omega) hZ9 ho15
                exact absurd hbl (hfr16 y hy)
              ·
                have hb_n3 := kp16.get hb_n3 lt_n3 (ni1 (by omega))
                have hb_n4 := kp16.get hb_n4 lt_n4 (ni1 (by omega))
                have hb_n7 := kp16.get hb_n7 lt_n7 (ni1 (by omega))
                have S := S.keep kp16 (nF1 nf_n8_S)
                have Z := Z.keep kp16 (nF1 nf_n8_Z)
                have R := R.keep kp16 (nF1 nf_n8_R)
                have G := G.keep kp16 (nF1 nf_n8_G)
                have A := A.keep kp16 (nF1 nf_n8_A)
                have lt_n3 := kp16.lt lt_n3
                have lt_n4 := kp16.lt lt_n4
                have lt_n7 := kp16.lt lt_n7
                have lt_n8 := kp16.lt lt_n8
                have hr : rd (readF 100 nb (t + g9 % 600)) ti2 = (readF 100 nb (t + g9 % 600)) := by unfold rd; omega
                rw [hr] at hq
                have hb_n8 := hq
                have X := Sq
                refine w_pick rfl (fun _ => ?_) (fun hh => nomatch hh)
                refine w_mv_bool rfl ?_
                refine w_kp ?_
                refine w_nil ?_
                refine w_cond (evs' gse) (fun hh => nomatch hh) (fun _ => ?_)
                refine w_skip ?_
                refine w_reg ?_
                refine w_mv_int (evs' (gsn rfl (gsn rfl f_p25))) ?_
                refine w_add rfl rfl (wr64 (by omega) (by omega)) ?_
                refine w_mv_int rfl ?_
                refine w_kp ?_
                refine w_nil ?_
                exact ⟨kk - 1, by omega, ap + 1, _, _, _, (gsn rfl (gsn rfl (gsn rfl f_p1))), (gsn rfl (gsn rfl (gsn rfl f_p7))), (gsn rfl (gsn rfl (gsn rfl f_p8))), (gsn rfl (gsn rfl (gsn rfl f_p10))), (gsn rfl (gsn rfl (gsn rfl f_p11))), (gsn rfl (gsn rfl (gsn rfl f_p13))), (gsn rfl (gsn rfl (gsn rfl f_p14))), (gsn rfl (gsn rfl (gsn rfl f_p15))), (gsn rfl (gsn rfl (gsn rfl f_p16))), (gsn rfl (gsn rfl (gsn rfl f_p18))), (gsn rfl (gsn rfl (gsn rfl f_p20))), gse, (by omega), (by omega), (by omega), (by omega), (by omega), (by omega), hb_n3, lt_n3, hb_n4, lt_n4, hb_n7, lt_n7, hb_n8, lt_n8, S, Z, X, R, G, A, nf_n3_S, nf_n3_Z, nf_n3_X, nf_n3_R, nf_n3_G, nf_n3_A, nf_n4_S, nf_n4_Z, nf_n4_X, nf_n4_R, nf_n4_G, nf_n4_A, nf_n7_S, nf_n7_Z, nf_n7_X, nf_n7_R, nf_n7_G, nf_n7_A, nf_n8_S, nf_n8_Z, nf_n8_X, nf_n8_R, nf_n8_G, nf_n8_A, dj_S_Z, dj_S_X, dj_S_R, dj_S_G, dj_Z_S, dj_Z_X, dj_Z_R, dj_Z_G, dj_X_S, dj_X_Z, dj_X_R, dj_X_G, dj_R_S, dj_R_Z, dj_R_X, dj_R_G, dj_G_S, dj_G_Z, dj_G_X, dj_G_R, dj_A_S, dj_A_Z, dj_A_X, dj_A_R, dj_A_G⟩
          ·
            refine w_kp ?_
            refine w_nil ?_
            refine w_cond (evs' gse) (fun hh => nomatch hh) (fun _ => ?_)
            refine w_exit ?_
            refine w_reg ?_
            refine w_mv_int (evs' (gsn rfl f_p16)) ?_
            refine w_add rfl rfl (wr64 (by omega) (by omega)) ?_
            refine w_mv_int rfl ?_
            refine w_kp ?_
            refine w_nil ?_
            exact ⟨kk0 - 1, by omega, i + 1, _, _, _, _, _, _, _, _, _, _, _, _, _, _, _, _, _, _, _, (gsn rfl (gsn rfl f_p1)), (gsn rfl (gsn rfl f_p7)), (gsn rfl (gsn rfl f_p8)), (gsn rfl (gsn rfl f_p10)), (gsn rfl (gsn rfl f_p11)), (gsn rfl (gsn rfl f_p13)), (gsn rfl (gsn rfl f_p14)), (gsn rfl (gsn rfl f_p15)), gse, (by omega), (by omega), (by omega), (by omega), (by omega), (by omega), (by omega), (by omega), (hu), (hlu), (hls), (hR9), (hG9), (hZ9), (by omega), (by omega), (by omega), hb_n3, lt_n3, hb_n4, lt_n4, hb_n7, lt_n7, hb_n8, lt_n8, S, Z, X, R, G, A, nf_n3_S, nf_n3_Z, nf_n3_X, nf_n3_R, nf_n3_G, nf_n3_A, nf_n4_S, nf_n4_Z, nf_n4_X, nf_n4_R, nf_n4_G, nf_n4_A, nf_n7_S, nf_n7_Z, nf_n7_X, nf_n7_R, nf_n7_G, nf_n7_A, nf_n8_S, nf_n8_Z, nf_n8_X, nf_n8_R, nf_n8_G, nf_n8_A, dj_S_Z, dj_S_X, dj_S_R, dj_S_G, dj_Z_S, dj_Z_X, dj_Z_R, dj_Z_G, dj_X_S, dj_X_Z, dj_X_R, dj_X_G, dj_R_S, dj_R_Z, dj_R_X, dj_R_G, dj_G_S, dj_G_Z, dj_G_X, dj_G_R, dj_A_S, dj_A_Z, dj_A_X, dj_A_R, dj_A_G⟩
        ·
          have nf_n3_S14 := fresh_nf hf14 lt_n3
          have nf_n4_S14 := fresh_nf hf14 lt_n4
          have nf_n7_S14 := fresh_nf hf14 lt_n7
          have nf_n8_S14 := fresh_nf hf14 lt_n8
          have nf_n10_S14 := fresh_nf hf14 lt_n10
          have dj_Z_S14 := fresh_dj Z.lt hf14
          have dj_S14_Z := dj_symm dj_Z_S14
          have dj_X_S14 := fresh_dj X.lt hf14
          have dj_S14_X := dj_symm dj_X_S14
          have dj_R_S14 := fresh_dj R.lt hf14
          have dj_S14_R := dj_symm dj_R_S14
          have dj_G_S14 := fresh_dj G.lt hf14
          have dj_S14_G := dj_symm dj_G_S14
          have dj_A_S14 := fresh_dj A.lt hf14
          have dj_S14_A := dj_symm dj_A_S14
          have hb_n3 := kp14.get hb_n3 lt_n3 (niC (by omega) nf_n3_S)
          have hb_n4 := kp14.get hb_n4 lt_n4 (niC (by omega) nf_n4_S)
          have hb_n8 := kp14.get hb_n8 lt_n8 (niC (by omega) nf_n8_S)
          have hb_n10 := kp14.get hb_n10 lt_n10 (niC (by omega) nf_n10_S)
          have Z := Z.keep kp14 (nFC nf_n7_Z dj_Z_S)
          have X := X.keep kp14 (nFC nf_n7_X dj_X_S)
          have R := R.keep kp14 (nFC nf_n7_R dj_R_S)
          have G := G.keep kp14 (nFC nf_n7_G dj_G_S)
          have A := A.keep kp14 (nFC nf_n7_A dj_A_S)
          have lt_n3 := kp14.lt lt_n3
          have lt_n4 := kp14.lt lt_n4
          have lt_n7 := kp14.lt lt_n7
          have lt_n8 := kp14.lt lt_n8
          have lt_n10 := kp14.lt lt_n10
          have hb_n7 := hq
          have S14 := Sq
          have hr : rd (readF 7 na (t + g9 % 600)) th = (readF 7 na (t + g9 % 600)) := by unfold rd; omega
          rw [hr] at hb_n7
          rw [hr] at hx14 ⊢
          have hu : ∀ e ∈ xs14, ∃ y, e = [.int .i64 y] := fun e he => (List.mem_append.1 (List.mem_of_mem_drop (hx14 ▸ he))).elim (hu e) (fun he => ⟨_, List.mem_singleton.1 he⟩)
          have hlu : xs14.length ≤ 16 := by rw [hx14, List.length_drop]; simp; split <;> omega
          refine w_mv_int rfl ?_
          refine w_kp ?_
          refine w_nil ?_
          refine w_seq ?_
          refine w_reg ?_
          refine w_mv_int (evs' gse) ?_
          refine w_gt rfl rfl (fun c6 => ?_) (fun c6 => by omega)
          refine w_kp ?_
          refine w_nil ?_
          refine w_cond (evs' gse) (fun _ => ?_) (fun hh => nomatch hh)
          refine w_reg ?_
          refine w_mv (evs' (gsn rfl (gsn rfl (gsn rfl (gsn rfl (gsn rfl (gsn rfl (gsn rfl (gsn rfl (gsn rfl (gsn rfl (gsn rfl (gsn rfl f_p13))))))))))))) ?_
          refine w_mv_int (evs' (gsn rfl gse)) ?_
          refine m_one_int rfl (fun t15 h15 hb_t15 kp15 nn15 hn15 => ?_)
          have nf_t15_Z := Z.new nn15
          have nf_t15_X := X.new nn15
          have nf_t15_R := R.new nn15
          have nf_t15_G := G.new nn15
          have nf_t15_A := A.new nn15
          have nf_t15_S14 := S14.new nn15
          have hb_n3 := kp15.get hb_n3 lt_n3 ni0
          have hb_n4 := kp15.get hb_n4 lt_n4 ni0
          have hb_n7 := kp15.get hb_n7 lt_n7 ni0
          have hb_n8 := kp15.get hb_n8 lt_n8 ni0
          have hb_n10 := kp15.get hb_n10 lt_n10 ni0
          have Z := Z.keep kp15 nF0
          have X := X.keep kp15 nF0
          have R := R.keep kp15 nF0
          have G := G.keep kp15 nF0
          have A := A.keep kp15 nF0
          have S14 := S14.keep kp15 nF0
          have lt_n3 := kp15.lt lt_n3
          have lt_n4 := kp15.lt lt_n4
          have lt_n7 := kp15.lt lt_n7
          have lt_n8 := kp15.lt lt_n8
          have lt_n10 := kp15.lt lt_n10
          refine m_app R hb_t15 rfl (by decide) (by omega) rfl rfl (fun v16 h16 m16 S16 kp16 nn16 hn16 => ?_)
          have nf_n3_S16 : n3 ∉ [m16] := ni1 (by omega)
          have nf_n4_S16 : n4 ∉ [m16] := ni1 (by omega)
          have nf_n7_S16 : n7 ∉ [m16] := ni1 (by omega)
          have nf_n8_S16 : n8 ∉ [m16] := ni1 (by omega)
          have nf_n10_S16 : n10 ∉ [m16] := ni1 (by omega)
          have dj_Z_S16 := nF1 (Z.new nn16)
          have dj_S16_Z := dj_symm dj_Z_S16
          have dj_X_S16 := nF1 (X.new nn16)
          have dj_S16_X := dj_symm dj_X_S16
          have dj_G_S16 := nF1 (G.new nn16)
          have dj_S16_G := dj_symm dj_G_S16
          have dj_A_S16 := nF1 (A.new nn16)
          have dj_S16_A := dj_symm dj_A_S16
          have dj_S14_S16 := nF1 (S14.new nn16)
          have dj_S16_S14 := dj_symm dj_S14_S16
          have hb_n3 := kp16.get hb_n3 lt_n3 nf_n3_R
          have hb_n4 := kp16.get hb_n4 lt_n4 nf_n4_R
          have hb_n7 := kp16.get hb_n7 lt_n7 nf_n7_R
          have hb_n8 := kp16.get hb_n8 lt_n8 nf_n8_R
          have hb_n10 := kp16.get hb_n10 lt_n10 nf_n10_R
          have Z := Z.keep kp16 dj_Z_R
          have X := X.keep kp16 dj_X_R
          have G := G.keep kp16 dj_G_R
          have A := A.keep kp16 dj_A_R
          have S14 := S14.keep kp16 dj_S14_R
          have lt_n3 := kp16.lt lt_n3
          have lt_n4 := kp16.lt lt_n4
          have lt_n7 := kp16.lt lt_n7
          have lt_n8 := kp16.lt lt_n8
          have lt_n10 := kp16.lt lt_n10
          refine w_mv rfl ?_
          refine w_kp ?_
          refine w_nil ?_
          refine w_seq ?_
          refine w_reg ?_
          refine w_mv_int rfl ?_
          refine w_kp ?_
          refine w_nil ?_
          refine w_block ?_
          obtain ⟨kk0, hkk0⟩ : ∃ q, q = kk := ⟨kk, rfl⟩
          have htt : t ≤ (t + g9 % 600) := by omega
          have hR9 : ∀ e ∈ (xr ++ [[V.int .i64 ((readF 7 na (t + g9 % 600)) + 1)]]), ∃ s, e = [V.int .i64 s] ∧ Asked na (t + g9 % 600) s := fun e he => (List.mem_append.1 he).elim (fun he => let ⟨s, a, b⟩ := hR e he; ⟨s, a, b.le htt⟩) (fun he => ⟨_, List.mem_singleton.1 he, (t + g9 % 600), by omega, by omega, rfl⟩)
          have hG9 : ∀ e ∈ xg, ∃ s n, e = [V.int .i64 s, .int .i64 n, .int .i64 (1 + lg % 2000)] ∧ 0 ≤ n ∧ Given1 na nb pp (1 + lg % 2000) (t + g9 % 600) lx n s := fun e he => let ⟨s, n, a, b, c⟩ := hG e he; ⟨s, n, a, b, (c.le htt)⟩
          have hZ9 : ∀ y ∈ lea, ∃ s, y.2 = s - 1 + holdF (1 + lg % 2000) pp ∧ Given1 na nb pp (1 + lg % 2000) (t + g9 % 600) lx y.1 s := fun y hy => let ⟨s, a, b⟩ := hZ y hy; ⟨s, a, (b.le htt)⟩
          refine w_loop (fun kk fr hh => ∃ (ap : Int) (th2 : Int) (gr2 : Int) (ti2 : Int), fr.get p1 = some (va) ∧ fr.get p7 = some (.ptr n3 0) ∧ fr.get p8 = some (.ptr n4 0) ∧ fr.get p10 = some (.ptr n7 0) ∧ fr.get p11 = some (.ptr n8 0) ∧ fr.get p13 = some (v16) ∧ fr.get p14 = some (vg) ∧ fr.get p15 = some (.int .i64 (t + g9 % 600)) ∧ fr.get p16 = some (.int .i64 i) ∧ fr.get p18 = some (.int .i64 (readF 7 na (t + g9 % 600))) ∧ fr.get p20 = some (.int .i64 (readF 100 nb (t + g9 % 600))) ∧ fr.get p25 = some (.int .i64 ap) ∧ (0 ≤ ap) ∧ (ap + (kk : Int) = 8) ∧ (0 ≤ th2) ∧ (th2 ≤ (readF 7 na (t + g9 % 600))) ∧ (0 ≤ ti2) ∧ (ti2 ≤ (readF 100 nb (t + g9 % 600))) ∧ (hh.get n3 = some (.cells [.int .i64 7, .int .i64 na, .int .i64 1000] false)) ∧ (n3.num < hh.next.num) ∧ (hh.get n4 = some (.cells [.int .i64 100, .int .i64 nb, .int .i64 1000] false)) ∧ (n4.num < hh.next.num) ∧ (hh.get n7 = some (.cells [.int .i64 pp, .int .i64 th2, .int .i64 gr2, vs14, vl] false)) ∧ (n7.num < hh.next.num) ∧ (hh.get n8 = some (.cells [.int .i64 (1 + lg % 2000), .int .i64 pp, .int .i64 ti2, vx] false)) ∧ (n8.num < hh.next.num) ∧ (Sl 1 hh vs14 F14 xs14) ∧ (Sl 2 hh vl FZ (lea.map le)) ∧ (Sl 3 hh vx FX (lx.map ge)) ∧ (Sl 1 hh v16 [m16] (xr ++ [[V.int .i64 ((readF 7 na (t + g9 % 600)) + 1)]])) ∧ (Sl 3 hh vg FG xg) ∧ (Ar 4 hh va FA xa) ∧ (n3 ∉ F14) ∧ (n3 ∉ FZ) ∧ (n3 ∉ FX) ∧ (n3 ∉ [m16]) ∧ (n3 ∉ FG) ∧ (n3 ∉ FA) ∧ (n4 ∉ F14) ∧ (n4 ∉ FZ) ∧ (n4 ∉ FX) ∧ (n4 ∉ [m16]) ∧ (n4 ∉ FG) ∧ (n4 ∉ FA) ∧ (n7 ∉ F14) ∧ (n7 ∉ FZ) ∧ (n7 ∉ FX) ∧ (n7 ∉ [m16]) ∧ (n7 ∉ FG) ∧ (n7 ∉ FA) ∧ (n8 ∉ F14) ∧ (n8 ∉ FZ) ∧ (n8 ∉ FX) ∧ (n8 ∉ [m16]) ∧ (n8 ∉ FG) ∧ (n8 ∉ FA) ∧ (∀ x ∈ F14, x ∉ FZ) ∧ (∀ x ∈ F14, x ∉ FX) ∧ (∀ x ∈ F14, x ∉ [m16]) ∧ (∀ x ∈ F14, x ∉ FG) ∧ (∀ x ∈ FZ, x ∉ F14) ∧ (∀ x ∈ FZ, x ∉ FX) ∧ (∀ x ∈ FZ, x ∉ [m16]) ∧ (∀ x ∈ FZ, x ∉ FG) ∧ (∀ x ∈ FX, x ∉ F14) ∧ (∀ x ∈ FX, x ∉ FZ) ∧ (∀ x ∈ FX, x ∉ [m16]) ∧ (∀ x ∈ FX, x ∉ FG) ∧ (∀ x ∈ [m16], x ∉ F14) ∧ (∀ x ∈ [m16], x ∉ FZ) ∧ (∀ x ∈ [m16], x ∉ FX) ∧ (∀ x ∈ [m16], x ∉ FG) ∧ (∀ x ∈ FG, x ∉ F14) ∧ (∀ x ∈ FG, x ∉ FZ) ∧ (∀ x ∈ FG, x ∉ FX) ∧ (∀ x ∈ FG, x ∉ [m16]) ∧ (∀ x ∈ FA, x ∉ F14) ∧ (∀ x ∈ FA, x ∉ FZ) ∧ (∀ x ∈ FA, x ∉ FX) ∧ (∀ x ∈ FA, x ∉ [m16]) ∧ (∀ x ∈ FA, x ∉ FG)) (k := 8) (by omega) ⟨0, _, _, _, (gsn rfl (gsn rfl (gsn rfl (gsn rfl (gsn rfl (gsn rfl (gsn rfl (gsn rfl (gsn rfl (gsn rfl (gsn rfl (gsn rfl (gsn rfl (gsn rfl f_p1)))))))))))))), (gsn rfl (gsn rfl (gsn rfl (gsn rfl (gsn rfl (gsn rfl (gsn rfl (gsn rfl (gsn rfl (gsn rfl (gsn rfl (gsn rfl (gsn rfl (gsn rfl f_p7)))))))))))))), (gsn rfl (gsn rfl (gsn rfl (gsn rfl (gsn rfl (gsn rfl (gsn rfl (gsn rfl (gsn rfl (gsn rfl (gsn rfl (gsn rfl (gsn rfl (gsn rfl f_p8)))))))))))))), (gsn rfl (gsn rfl (gsn rfl (gsn rfl (gsn rfl (gsn rfl (gsn rfl (gsn rfl (gsn rfl (gsn rfl (gsn rfl (gsn rfl (gsn rfl (gsn rfl f_p10)))))))))))))), (gsn rfl (gsn rfl (gsn rfl (gsn rfl (gsn rfl (gsn rfl (gsn rfl (gsn rfl (gsn rfl (gsn rfl (gsn rfl (gsn rfl (gsn rfl (gsn rfl f_p11)))))))))))))), (gsn rfl gse), (gsn rfl (gsn rfl (gsn rfl (gsn rfl (gsn rfl (gsn rfl (gsn rfl (gsn rfl (gsn rfl (gsn rfl (gsn rfl (gsn rfl (gsn rfl (gsn rfl f_p14)))))))))))))), (gsn rfl (gsn rfl (gsn rfl (gsn rfl (gsn rfl (gsn rfl (gsn rfl (gsn rfl (gsn rfl (gsn rfl (gsn rfl gse))))))))))), (gsn rfl (gsn rfl (gsn rfl (gsn rfl (gsn rfl (gsn rfl (gsn rfl (gsn rfl (gsn rfl (gsn rfl (gsn rfl (gsn rfl (gsn rfl (gsn rfl f_p16)))))))))))))), (gsn rfl (gsn rfl (gsn rfl (gsn rfl (gsn rfl (gsn rfl (gsn rfl (gsn rfl (gsn rfl (gsn rfl gse)))))))))), (gsn rfl (gsn rfl (gsn rfl (gsn rfl (gsn rfl (gsn rfl (gsn rfl (gsn rfl gse)))))))), gse, (by omega), (by omega), (by omega), (by omega), (by omega), (by omega), hb_n3, lt_n3, hb_n4, lt_n4, hb_n7, lt_n7, hb_n8, lt_n8, S14, Z, X, S16, G, A, nf_n3_S14, nf_n3_Z, nf_n3_X, nf_n3_S16, nf_n3_G, nf_n3_A, nf_n4_S14, nf_n4_Z, nf_n4_X, nf_n4_S16, nf_n4_G, nf_n4_A, nf_n7_S14, nf_n7_Z, nf_n7_X, nf_n7_S16, nf_n7_G, nf_n7_A, nf_n8_S14, nf_n8_Z, nf_n8_X, nf_n8_S16, nf_n8_G, nf_n8_A, dj_S14_Z, dj_S14_X, dj_S14_S16, dj_S14_G, dj_Z_S14, dj_Z_X, dj_Z_S16, dj_Z_G, dj_X_S14, dj_X_Z, dj_X_S16, dj_X_G, dj_S16_S14, dj_S16_Z, dj_S16_X, dj_S16_G, dj_G_S14, dj_G_Z, dj_G_X, dj_G_S16, dj_A_S14, dj_A_Z, dj_A_X, dj_A_S16, dj_A_G⟩ ?_
          refine fun kk fr hh => ex_i fun ap => ex_i fun th2 => ex_i fun gr2 => ex_i fun ti2 => and_i fun f_p1 => and_i fun f_p7 => and_i fun f_p8 => and_i fun f_p10 => and_i fun f_p11 => and_i fun f_p13 => and_i fun f_p14 => and_i fun f_p15 => and_i fun f_p16 => and_i fun f_p18 => and_i fun f_p20 => and_i fun f_p25 => and_i fun hap0 => and_i fun hap1 => and_i fun hth2 => and_i fun hth3 => and_i fun hti2 => and_i fun hti3 => and_i fun hb_n3 => and_i fun lt_n3 => and_i fun hb_n4 => and_i fun lt_n4 => and_i fun hb_n7 => and_i fun lt_n7 => and_i fun hb_n8 => and_i fun lt_n8 => and_i fun S14 => and_i fun Z => and_i fun X => and_i fun S16 => and_i fun G => and_i fun A => and_i fun nf_n3_S14 => and_i fun nf_n3_Z => and_i fun nf_n3_X => and_i fun nf_n3_S16 => and_i fun nf_n3_G => and_i fun nf_n3_A => and_i fun nf_n4_S14 => and_i fun nf_n4_Z => and_i fun nf_n4_X => and_i fun nf_n4_S16 => and_i fun nf_n4_G => and_i fun nf_n4_A => and_i fun nf_n7_S14 => and_i fun nf_n7_Z => and_i fun nf_n7_X => and_i fun nf_n7_S16 => and_i fun nf_n7_G => and_i fun nf_n7_A => and_i fun nf_n8_S14 => and_i fun nf_n8_Z => and_i fun nf_n8_X => and_i fun nf_n8_S16 => and_i fun nf_n8_G => and_i fun nf_n8_A => and_i fun dj_S14_Z => and_i fun dj_S14_X => and_i fun dj_S14_S16 => and_i fun dj_S14_G => and_i fun dj_Z_S14 => and_i fun dj_Z_X => and_i fun dj_Z_S16 => and_i fun dj_Z_G => and_i fun dj_X_S14 => and_i fun dj_X_Z => and_i fun dj_X_S16 => and_i fun dj_X_G => and_i fun dj_S16_S14 => and_i fun dj_S16_Z => and_i fun dj_S16_X => and_i fun dj_S16_G => and_i fun dj_G_S14 => and_i fun dj_G_Z => and_i fun dj_G_X => and_i fun dj_G_S16 => and_i fun dj_A_S14 => and_i fun dj_A_Z => and_i fun dj_A_X => and_i fun dj_A_S16 => fun dj_A_G => ?_
          refine w_seq ?_
          refine w_seq ?_
          refine w_reg ?_
          refine w_mv_int (evs' f_p25) ?_
          refine w_lt rfl rfl (fun c7 => ?_) (fun c7 => ?_)
          ·
            refine w_kp ?_
            refine w_nil ?_
            refine w_cond (evs' gse) (fun _ => ?_) (fun hh => nomatch hh)
            refine w_skip ?_
            refine w_seq ?_
            refine w_block ?_
            refine w_seq ?_
            refine w_reg ?_
            refine w_mv_ptr (evs' (gsn rfl f_p10)) ?_
            refine w_mv_int (evs' (gsn rfl f_p18)) ?_
            refine w_mv_int (evs' (gsn rfl f_p25)) ?_
            refine w_call (holds_ok _ _ _ n7 _ _ _ _ _ _ _ _ _ hb_n7 Z nf_n7_Z lt_n7 (by omega) (by omega) (fun h17 t17 ho17 hq Sq kp17 => ?_))
            have hb_n3 := kp17.get hb_n3 lt_n3 (ni1 (by omega))
            have hb_n4 := kp17.get hb_n4 lt_n4 (ni1 (by omega))
            have hb_n8 := kp17.get hb_n8 lt_n8 (ni1 (by omega))
            have S14 := S14.keep kp17 (nF1 nf_n7_S14)
            have X := X.keep kp17 (nF1 nf_n7_X)
            have S16 := S16.keep kp17 (nF1 nf_n7_S16)
            have G := G.keep kp17 (nF1 nf_n7_G)
            have A := A.keep kp17 (nF1 nf_n7_A)
            have lt_n3 := kp17.lt lt_n3
            have lt_n4 := kp17.lt lt_n4
            have lt_n7 := kp17.lt lt_n7
            have lt_n8 := kp17.lt lt_n8
            have hr : rd (readF 7 na (t + g9 % 600)) th2 = (readF 7 na (t + g9 % 600)) := by unfold rd; omega
            have hmx : max ap 0 = ap := by omega
            rw [hr] at hq ho17
            rw [hmx] at ho17
            have hb_n7 := hq
            have Z := Sq
            cases t17
            ·
              refine w_mv_bool rfl ?_
              refine w_gop rfl (fun hh => nomatch hh) (fun _ => ?_)
              refine w_gop rfl (fun hh => nomatch hh) (fun _ => ?_)
              refine w_gop rfl (fun hh => nomatch hh) (fun _ => ?_)
              refine w_gop rfl (fun hh => nomatch hh) (fun _ => ?_)
              refine w_gcall rfl (fun hh => nomatch hh) (fun _ => ?_)
              refine w_pick rfl (fun hh => nomatch hh) (fun _ => ?_)
              refine w_mv_bool rfl ?_
              refine w_kp ?_
              refine w_nil ?_
              refine w_cond (evs' gse) (fun hh => nomatch hh) (fun _ => ?_)
              refine w_skip ?_
              refine w_reg ?_
              refine w_mv_int (evs' (gsn rfl (gsn rfl f_p25))) ?_
              refine w_add rfl rfl (wr64 (by omega) (by omega)) ?_
              refine w_mv_int rfl ?_
              refine w_kp ?_
              refine w_nil ?_
              exact ⟨kk - 1, by omega, ap + 1, _, _, _, (gsn rfl (gsn rfl (gsn rfl f_p1))), (gsn rfl (gsn rfl (gsn rfl f_p7))), (gsn rfl (gsn rfl (gsn rfl f_p8))), (gsn rfl (gsn rfl (gsn rfl f_p10))), (gsn rfl (gsn rfl (gsn rfl f_p11))), (gsn rfl (gsn rfl (gsn rfl f_p13))), (gsn rfl (gsn rfl (gsn rfl f_p14))), (gsn rfl (gsn rfl (gsn rfl f_p15))), (gsn rfl (gsn rfl (gsn rfl f_p16))), (gsn rfl (gsn rfl (gsn rfl f_p18))), (gsn rfl (gsn rfl (gsn rfl f_p20))), gse, (by omega), (by omega), (by omega), (by omega), (by omega), (by omega), hb_n3, lt_n3, hb_n4, lt_n4, hb_n7, lt_n7, hb_n8, lt_n8, S14, Z, X, S16, G, A, nf_n3_S14, nf_n3_Z, nf_n3_X, nf_n3_S16, nf_n3_G, nf_n3_A, nf_n4_S14, nf_n4_Z, nf_n4_X, nf_n4_S16, nf_n4_G, nf_n4_A, nf_n7_S14, nf_n7_Z, nf_n7_X, nf_n7_S16, nf_n7_G, nf_n7_A, nf_n8_S14, nf_n8_Z, nf_n8_X, nf_n8_S16, nf_n8_G, nf_n8_A, dj_S14_Z, dj_S14_X, dj_S14_S16, dj_S14_G, dj_Z_S14, dj_Z_X, dj_Z_S16, dj_Z_G, dj_X_S14, dj_X_Z, dj_X_S16, dj_X_G, dj_S16_S14, dj_S16_Z, dj_S16_X, dj_S16_G, dj_G_S14, dj_G_Z, dj_G_X, dj_G_S16, dj_A_S14, dj_A_Z, dj_A_X, dj_A_S16, dj_A_G⟩
            ·
              have ho17 := of_decide_eq_true ho17.symm
              refine w_mv_bool rfl ?_
              refine w_gop rfl (fun _ => ?_) (fun hh => nomatch hh)
              refine w_mv_ptr (evs' (gsn rfl f_p11)) ?_
              refine w_gop rfl (fun _ => ?_) (fun hh => nomatch hh)
              refine w_mv_int (evs' (gsn rfl f_p25)) ?_
              refine w_gop rfl (fun _ => ?_) (fun hh => nomatch hh)
              refine w_add rfl rfl (wr64 (by omega) (by omega)) ?_
              refine w_gop rfl (fun _ => ?_) (fun hh => nomatch hh)
              refine w_mv_int (evs' (gsn rfl f_p20)) ?_
              refine w_gcall rfl (fun _ => ?_) (fun hh => nomatch hh)
              refine w_call (free_ok _ _ _ n8 _ _ _ _ _ _ _ _ _ hb_n8 X nf_n8_X lt_n8 (by omega) (by omega) (fun h18 hfr18 hq Sq kp18 => ?_) (fun h18 hfr18 hq Sq kp18 => ?_))
              ·
                have hr : rd (readF 100 nb (t + g9 % 600)) ti2 = (readF 100 nb (t + g9 % 600)) := by unfold rd; omega
                rw [hr] at hfr18
                obtain ⟨y, hy, hbl⟩ := safe_law hp0 hp1 hna0 hnb1 (by omega) (by omega) (by omega) hZ9 ho17
                exact absurd hbl (hfr18 y hy)
              ·
                have hb_n3 := kp18.get hb_n3 lt_n3 (ni1 (by omega))
                have hb_n4 := kp18.get hb_n4 lt_n4 (ni1 (by omega))
                have hb_n7 := kp18.get hb_n7 lt_n7 (ni1 (by omega))
                have S14 := S14.keep kp18 (nF1 nf_n8_S14)
                have Z := Z.keep kp18 (nF1 nf_n8_Z)
                have S16 := S16.keep kp18 (nF1 nf_n8_S16)
                have G := G.keep kp18 (nF1 nf_n8_G)
                have A := A.keep kp18 (nF1 nf_n8_A)
                have lt_n3 := kp18.lt lt_n3
                have lt_n4 := kp18.lt lt_n4
                have lt_n7 := kp18.lt lt_n7
                have lt_n8 := kp18.lt lt_n8
                have hr : rd (readF 100 nb (t + g9 % 600)) ti2 = (readF 100 nb (t + g9 % 600)) := by unfold rd; omega
                rw [hr] at hq
                have hb_n8 := hq
                have X := Sq
                refine w_pick rfl (fun _ => ?_) (fun hh => nomatch hh)
                refine w_mv_bool rfl ?_
                refine w_kp ?_
                refine w_nil ?_
                refine w_cond (evs' gse) (fun hh => nomatch hh) (fun _ => ?_)
                refine w_skip ?_
                refine w_reg ?_
                refine w_mv_int (evs' (gsn rfl (gsn rfl f_p25))) ?_
                refine w_add rfl rfl (wr64 (by omega) (by omega)) ?_
                refine w_mv_int rfl ?_
                refine w_kp ?_
                refine w_nil ?_
                exact ⟨kk - 1, by omega, ap + 1, _, _, _, (gsn rfl (gsn rfl (gsn rfl f_p1))), (gsn rfl (gsn rfl (gsn rfl f_p7))), (gsn rfl (gsn rfl (gsn rfl f_p8))), (gsn rfl (gsn rfl (gsn rfl f_p10))), (gsn rfl (gsn rfl (gsn rfl f_p11))), (gsn rfl (gsn rfl (gsn rfl f_p13))), (gsn rfl (gsn rfl (gsn rfl f_p14))), (gsn rfl (gsn rfl (gsn rfl f_p15))), (gsn rfl (gsn rfl (gsn rfl f_p16))), (gsn rfl (gsn rfl (gsn rfl f_p18))), (gsn rfl (gsn rfl (gsn rfl f_p20))), gse, (by omega), (by omega), (by omega), (by omega), (by omega), (by omega), hb_n3, lt_n3, hb_n4, lt_n4, hb_n7, lt_n7, hb_n8, lt_n8, S14, Z, X, S16, G, A, nf_n3_S14, nf_n3_Z, nf_n3_X, nf_n3_S16, nf_n3_G, nf_n3_A, nf_n4_S14, nf_n4_Z, nf_n4_X, nf_n4_S16, nf_n4_G, nf_n4_A, nf_n7_S14, nf_n7_Z, nf_n7_X, nf_n7_S16, nf_n7_G, nf_n7_A, nf_n8_S14, nf_n8_Z, nf_n8_X, nf_n8_S16, nf_n8_G, nf_n8_A, dj_S14_Z, dj_S14_X, dj_S14_S16, dj_S14_G, dj_Z_S14, dj_Z_X, dj_Z_S16, dj_Z_G, dj_X_S14, dj_X_Z, dj_X_S16, dj_X_G, dj_S16_S14, dj_S16_Z, dj_S16_X, dj_S16_G, dj_G_S14, dj_G_Z, dj_G_X, dj_G_S16, dj_A_S14, dj_A_Z, dj_A_X, dj_A_S16, dj_A_G⟩
          ·
            refine w_kp ?_
            refine w_nil ?_
            refine w_cond (evs' gse) (fun hh => nomatch hh) (fun _ => ?_)
            refine w_exit ?_
            refine w_reg ?_
            refine w_mv_int (evs' (gsn rfl f_p16)) ?_
            refine w_add rfl rfl (wr64 (by omega) (by omega)) ?_
            refine w_mv_int rfl ?_
            refine w_kp ?_
            refine w_nil ?_
            exact ⟨kk0 - 1, by omega, i + 1, _, _, _, _, _, _, _, _, _, _, _, _, _, _, _, _, _, _, _, (gsn rfl (gsn rfl f_p1)), (gsn rfl (gsn rfl f_p7)), (gsn rfl (gsn rfl f_p8)), (gsn rfl (gsn rfl f_p10)), (gsn rfl (gsn rfl f_p11)), (gsn rfl (gsn rfl f_p13)), (gsn rfl (gsn rfl f_p14)), (gsn rfl (gsn rfl f_p15)), gse, (by omega), (by omega), (by omega), (by omega), (by omega), (by omega), (by omega), (by omega), (hu), (hlu), (hls), (hR9), (hG9), (hZ9), (by rw [List.length_append, List.length_singleton]; omega), (by omega), (by omega), hb_n3, lt_n3, hb_n4, lt_n4, hb_n7, lt_n7, hb_n8, lt_n8, S14, Z, X, S16, G, A, nf_n3_S14, nf_n3_Z, nf_n3_X, nf_n3_S16, nf_n3_G, nf_n3_A, nf_n4_S14, nf_n4_Z, nf_n4_X, nf_n4_S16, nf_n4_G, nf_n4_A, nf_n7_S14, nf_n7_Z, nf_n7_X, nf_n7_S16, nf_n7_G, nf_n7_A, nf_n8_S14, nf_n8_Z, nf_n8_X, nf_n8_S16, nf_n8_G, nf_n8_A, dj_S14_Z, dj_S14_X, dj_S14_S16, dj_S14_G, dj_Z_S14, dj_Z_X, dj_Z_S16, dj_Z_G, dj_X_S14, dj_X_Z, dj_X_S16, dj_X_G, dj_S16_S14, dj_S16_Z, dj_S16_X, dj_S16_G, dj_G_S14, dj_G_Z, dj_G_X, dj_G_S16, dj_A_S14, dj_A_Z, dj_A_X, dj_A_S16, dj_A_G⟩
      ·
        refine w_mv_bool rfl ?_
        refine w_kp ?_
        refine w_nil ?_
        refine w_cond (evs' gse) (fun hh => nomatch hh) (fun _ => ?_)
        refine w_seq ?_
        refine w_reg ?_
        refine w_ieq (evs' (gsn rfl gse)) rfl (fun c8 => ?_) (fun c8 => ?_)
        ·
          refine w_mv_bool rfl ?_
          refine w_kp ?_
          refine w_nil ?_
          refine w_cond (evs' gse) (fun _ => ?_) (fun hh => nomatch hh)
          refine w_seq ?_
          refine w_reg ?_
          refine w_mv (evs' (gsn rfl (gsn rfl (gsn rfl (gsn rfl (gsn rfl (gsn rfl (gsn rfl (gsn rfl (gsn rfl (gsn rfl (gsn rfl f_p13)))))))))))) ?_
          refine w_sl_len R rfl ?_
          refine w_gt rfl rfl (fun c9 => ?_) (fun c9 => ?_)
          ·
            refine w_kp ?_
            refine w_nil ?_
            refine w_cond (evs' gse) (fun _ => ?_) (fun hh => nomatch hh)
            refine w_seq ?_
            refine w_reg ?_
            refine w_mv_ptr (evs' (gsn rfl (gsn rfl (gsn rfl (gsn rfl (gsn rfl (gsn rfl (gsn rfl (gsn rfl (gsn rfl (gsn rfl (gsn rfl (gsn rfl f_p11))))))))))))) ?_
            refine w_mv (evs' (gsn rfl (gsn rfl (gsn rfl (gsn rfl (gsn rfl (gsn rfl (gsn rfl (gsn rfl (gsn rfl (gsn rfl (gsn rfl (gsn rfl f_p13))))))))))))) ?_
            refine w_fa (evs' (gsn rfl (gsn rfl (gsn rfl (gsn rfl (gsn rfl (gsn rfl (gsn rfl (gsn rfl (gsn rfl (gsn rfl gse))))))))))) ?_
            refine w_ld rfl hb_n10 rfl ?_
            refine w_i2i rfl (wr64 (by omega) (by omega)) ?_
            refine w_mv (evs' (gsn rfl (gsn rfl (gsn rfl (gsn rfl (gsn rfl (gsn rfl (gsn rfl (gsn rfl (gsn rfl (gsn rfl (gsn rfl (gsn rfl f_p13))))))))))))) ?_
            refine w_sl_len R rfl ?_
            refine w_remp rfl rfl (by omega) (by omega) ?_
            have hq1 := Int.emod_nonneg p9 (b := (xr.length : Int)) (by omega)
            have hq2 := Int.emod_lt_of_pos p9 (b := (xr.length : Int)) (by omega)
            refine w_sl_ix R rfl rfl (by omega) (by omega) (fun s14 o14 cs14 e14 hs14 he14 ht14 hf14 => ?_)
            obtain ⟨s14v, rfl, hs14v⟩ := hR _ (List.mem_of_getElem? he14)
            have hsb : 1 ≤ s14v ∧ s14v ≤ 1000001 := by obtain ⟨ts, q1, q2, q3⟩ := hs14v; have e1 := readF_mono (off := 7) (n := na) (s := 0) (t := ts) (by omega) q1; have e2 := readF_mono (off := 7) (n := na) (s := ts) (t := t) (by omega) q2; rw [readF_zero] at e1; omega
            refine w_ld rfl hs14 (takeN_nth (j := 0) ht14 rfl) ?_
            refine w_fa (evs' (gsn rfl (gsn rfl (gsn rfl (gsn rfl (gsn rfl (gsn rfl (gsn rfl (gsn rfl (gsn rfl (gsn rfl gse))))))))))) ?_
            refine w_ld rfl hb_n10 rfl ?_
            refine w_remp rfl rfl (by omega) (by omega) ?_
            refine w_i2i rfl (wr64 (by omega) (by omega)) ?_
            refine w_mv_int (evs' (gsn rfl (gsn rfl (gsn rfl (gsn rfl (gsn rfl (gsn rfl gse))))))) ?_
            refine m_name (fun n15 h15 hb_n15 kp15 nn15 hn15 => ?_)
            have nf_n15_S := S.new nn15
            have nf_n15_Z := Z.new nn15
            have nf_n15_X := X.new nn15
            have nf_n15_R := R.new nn15
            have nf_n15_G := G.new nn15
            have nf_n15_A := A.new nn15
            have hs14 := kp15.get hs14 (R.lt _ hf14) (nF0 _ hf14)
            have hb_n3 := kp15.get hb_n3 lt_n3 ni0
            have hb_n4 := kp15.get hb_n4 lt_n4 ni0
            have hb_n7 := kp15.get hb_n7 lt_n7 ni0
            have hb_n8 := kp15.get hb_n8 lt_n8 ni0
            have hb_n10 := kp15.get hb_n10 lt_n10 ni0
            have S := S.keep kp15 nF0
            have Z := Z.keep kp15 nF0
            have X := X.keep kp15 nF0
            have R := R.keep kp15 nF0
            have G := G.keep kp15 nF0
            have A := A.keep kp15 nF0
            have lt_n3 := kp15.lt lt_n3
            have lt_n4 := kp15.lt lt_n4
            have lt_n7 := kp15.lt lt_n7
            have lt_n8 := kp15.lt lt_n8
            have lt_n10 := kp15.lt lt_n10
            have lt_n15 : n15.num < h15.next.num := by omega
            have hmin : min (1 + lg % 2000) 1073741824 = (1 + lg % 2000) := by omega
            have hmax : max 0 (n9v % 8) = (n9v % 8) := by omega
            refine w_call (grant_ok _ _ _ n8 _ _ _ _ _ _ _ _ _ _ _ hb_n8 X nf_n8_X lt_n8 (by omega) (by omega) (fun h16 he16 hq Sq kp16 => by omega) (fun h16 v16 F16 hs16 hl16 hq Sq kp16 hf16 => ?_))
            have nf_n3_S16 := fresh_nf hf16 lt_n3
            have nf_n4_S16 := fresh_nf hf16 lt_n4
            have nf_n7_S16 := fresh_nf hf16 lt_n7
            have nf_n8_S16 := fresh_nf hf16 lt_n8
            have nf_n10_S16 := fresh_nf hf16 lt_n10
            have nf_n15_S16 := fresh_nf hf16 lt_n15
            have dj_S_S16 := fresh_dj S.lt hf16
            have dj_S16_S := dj_symm dj_S_S16
            have dj_Z_S16 := fresh_dj Z.lt hf16
            have dj_S16_Z := dj_symm dj_Z_S16
            have dj_R_S16 := fresh_dj R.lt hf16
            have dj_S16_R := dj_symm dj_R_S16
            have dj_G_S16 := fresh_dj G.lt hf16
            have dj_S16_G := dj_symm dj_G_S16
            have dj_A_S16 := fresh_dj A.lt hf16
            have dj_S16_A := dj_symm dj_A_S16
            have hs14 := kp16.get hs14 (R.lt _ hf14) ((nFC nf_n8_R dj_R_X) _ hf14)
            have hb_n3 := kp16.get hb_n3 lt_n3 (niC (by omega) nf_n3_X)
            have hb_n4 := kp16.get hb_n4 lt_n4 (niC (by omega) nf_n4_X)
            have hb_n7 := kp16.get hb_n7 lt_n7 (niC (by omega) nf_n7_X)
            have hb_n10 := kp16.get hb_n10 lt_n10 (niC (by omega) nf_n10_X)
            have hb_n15 := kp16.get hb_n15 lt_n15 (niC (by omega) nf_n15_X)
            have S := S.keep kp16 (nFC nf_n8_S dj_S_X)
            have Z := Z.keep kp16 (nFC nf_n8_Z dj_Z_X)
            have R := R.keep kp16 (nFC nf_n8_R dj_R_X)
            have G := G.keep kp16 (nFC nf_n8_G dj_G_X)
            have A := A.keep kp16 (nFC nf_n8_A dj_A_X)
            have lt_n3 := kp16.lt lt_n3
            have lt_n4 := kp16.lt lt_n4
            have lt_n7 := kp16.lt lt_n7
            have lt_n8 := kp16.lt lt_n8
            have lt_n10 := kp16.lt lt_n10
            have lt_n15 := kp16.lt lt_n15
            have hr : rd (readF 100 nb (t + g9 % 600)) ti = (readF 100 nb (t + g9 % 600)) := by unfold rd; omega
            rw [hr] at hq Sq
            rw [hmin, hmax] at Sq
            rw [hmin, hmax]
            have hb_n8 := hq
            have S16 := Sq
            refine w_mv_tup rfl ?_
            refine w_eq rfl ?_
            refine w_eq rfl ?_
            refine m_init hb_n15 rfl (fun h17 hq kp17 => ?_)
            have hs14 := kp17.get hs14 (R.lt _ hf14) ((nF1 nf_n15_R) _ hf14)
            have hb_n3 := kp17.get hb_n3 lt_n3 (ni1 (by omega))
            have hb_n4 := kp17.get hb_n4 lt_n4 (ni1 (by omega))
            have hb_n7 := kp17.get hb_n7 lt_n7 (ni1 (by omega))
            have hb_n8 := kp17.get hb_n8 lt_n8 (ni1 (by omega))
            have hb_n10 := kp17.get hb_n10 lt_n10 (ni1 (by omega))
            have S := S.keep kp17 (nF1 nf_n15_S)
            have Z := Z.keep kp17 (nF1 nf_n15_Z)
            have R := R.keep kp17 (nF1 nf_n15_R)
            have G := G.keep kp17 (nF1 nf_n15_G)
            have A := A.keep kp17 (nF1 nf_n15_A)
            have S16 := S16.keep kp17 (nF1 nf_n15_S16)
            have lt_n3 := kp17.lt lt_n3
            have lt_n4 := kp17.lt lt_n4
            have lt_n7 := kp17.lt lt_n7
            have lt_n8 := kp17.lt lt_n8
            have lt_n10 := kp17.lt lt_n10
            have lt_n15 := kp17.lt lt_n15
            have hb_n15 := hq
            refine m_st_agg hb_n15 rfl rfl rfl rfl (fun h18 hq kp18 => ?_)
            have hs14 := kp18.get hs14 (R.lt _ hf14) ((nF1 nf_n15_R) _ hf14)
            have hb_n3 := kp18.get hb_n3 lt_n3 (ni1 (by omega))
            have hb_n4 := kp18.get hb_n4 lt_n4 (ni1 (by omega))
            have hb_n7 := kp18.get hb_n7 lt_n7 (ni1 (by omega))
            have hb_n8 := kp18.get hb_n8 lt_n8 (ni1 (by omega))
            have hb_n10 := kp18.get hb_n10 lt_n10 (ni1 (by omega))
            have S := S.keep kp18 (nF1 nf_n15_S)
            have Z := Z.keep kp18 (nF1 nf_n15_Z)
            have R := R.keep kp18 (nF1 nf_n15_R)
            have G := G.keep kp18 (nF1 nf_n15_G)
            have A := A.keep kp18 (nF1 nf_n15_A)
            have S16 := S16.keep kp18 (nF1 nf_n15_S16)
            have lt_n3 := kp18.lt lt_n3
            have lt_n4 := kp18.lt lt_n4
            have lt_n7 := kp18.lt lt_n7
            have lt_n8 := kp18.lt lt_n8
            have lt_n10 := kp18.lt lt_n10
            have lt_n15 := kp18.lt lt_n15
            have hb_n15 := hq
            refine w_mv_nif rfl ?_
            refine w_slot rfl ?_
            refine w_slot_ptr rfl ?_
            refine w_nil ?_
            refine w_seq ?_
            refine w_seq ?_
            refine w_reg ?_
            refine w_mv_nif (evs' (gsn rfl gse)) ?_
            refine w_eqv (t' := false) rfl rfl rfl rfl ?_
            refine w_kp ?_
            refine w_nil ?_
            refine w_cond (evs' gse) (fun hh => nomatch hh) (fun _ => ?_)
            refine w_skip ?_
            refine w_reg ?_
            refine w_mv (evs' (gsn rfl (gsn rfl (gsn rfl (gsn rfl (gsn rfl (gsn rfl (gsn rfl (gsn rfl (gsn rfl (gsn rfl (gsn rfl (gsn rfl (gsn rfl (gsn rfl (gsn rfl f_p14)))))))))))))))) ?_
            refine w_ldn (evs' (gsn rfl gse)) hb_n15 rfl ?_
            refine m_one_agg rfl rfl rfl (fun t19 h19 hb_t19 kp19 nn19 hn19 => ?_)
            have nf_t19_S := S.new nn19
            have nf_t19_Z := Z.new nn19
            have nf_t19_R := R.new nn19
            have nf_t19_G := G.new nn19
            have nf_t19_A := A.new nn19
            have nf_t19_S16 := S16.new nn19
            have hb_n3 := kp19.get hb_n3 lt_n3 ni0
            have hb_n4 := kp19.get hb_n4 lt_n4 ni0
            have hb_n7 := kp19.get hb_n7 lt_n7 ni0
            have hb_n8 := kp19.get hb_n8 lt_n8 ni0
            have hb_n10 := kp19.get hb_n10 lt_n10 ni0
            have hb_n15 := kp19.get hb_n15 lt_n15 ni0
            have S := S.keep kp19 nF0
            have Z := Z.keep kp19 nF0
            have R := R.keep kp19 nF0
            have G := G.keep kp19 nF0
            have A := A.keep kp19 nF0
            have S16 := S16.keep kp19 nF0
            have lt_n3 := kp19.lt lt_n3
            have lt_n4 := kp19.lt lt_n4
            have lt_n7 := kp19.lt lt_n7
            have lt_n8 := kp19.lt lt_n8
            have lt_n10 := kp19.lt lt_n10
            have lt_n15 := kp19.lt lt_n15
            refine m_app G hb_t19 rfl (by decide) (by omega) rfl rfl (fun v20 h20 m20 S20 kp20 nn20 hn20 => ?_)
            have nf_n3_S20 : n3 ∉ [m20] := ni1 (by omega)
            have nf_n4_S20 : n4 ∉ [m20] := ni1 (by omega)
            have nf_n7_S20 : n7 ∉ [m20] := ni1 (by omega)
            have nf_n8_S20 : n8 ∉ [m20] := ni1 (by omega)
            have nf_n10_S20 : n10 ∉ [m20] := ni1 (by omega)
            have nf_n15_S20 : n15 ∉ [m20] := ni1 (by omega)
            have dj_S_S20 := nF1 (S.new nn20)
            have dj_S20_S := dj_symm dj_S_S20
            have dj_Z_S20 := nF1 (Z.new nn20)
            have dj_S20_Z := dj_symm dj_Z_S20
            have dj_R_S20 := nF1 (R.new nn20)
            have dj_S20_R := dj_symm dj_R_S20
            have dj_A_S20 := nF1 (A.new nn20)
            have dj_S20_A := dj_symm dj_A_S20
            have dj_S16_S20 := nF1 (S16.new nn20)
            have dj_S20_S16 := dj_symm dj_S16_S20
            have hb_n3 := kp20.get hb_n3 lt_n3 nf_n3_G
            have hb_n4 := kp20.get hb_n4 lt_n4 nf_n4_G
            have hb_n7 := kp20.get hb_n7 lt_n7 nf_n7_G
            have hb_n8 := kp20.get hb_n8 lt_n8 nf_n8_G
            have hb_n10 := kp20.get hb_n10 lt_n10 nf_n10_G
            have hb_n15 := kp20.get hb_n15 lt_n15 nf_n15_G
            have S := S.keep kp20 dj_S_G
            have Z := Z.keep kp20 dj_Z_G
            have R := R.keep kp20 dj_R_G
            have A := A.keep kp20 dj_A_G
            have S16 := S16.keep kp20 dj_S16_G
            have lt_n3 := kp20.lt lt_n3
            have lt_n4 := kp20.lt lt_n4
            have lt_n7 := kp20.lt lt_n7
            have lt_n8 := kp20.lt lt_n8
            have lt_n10 := kp20.lt lt_n10
            have lt_n15 := kp20.lt lt_n15
            refine w_mv rfl ?_
            refine w_kp ?_
            refine w_nil ?_
            refine w_seq ?_
            refine w_reg ?_
            refine w_mv_int rfl ?_
            refine w_kp ?_
            refine w_nil ?_
            refine w_block ?_
            obtain ⟨kk0, hkk0⟩ : ∃ q, q = kk := ⟨kk, rfl⟩
            have htt : t ≤ (t + g9 % 600) := by omega
            have hR9 : ∀ e ∈ xr, ∃ s, e = [V.int .i64 s] ∧ Asked na (t + g9 % 600) s := fun e he => let ⟨s, a, b⟩ := hR e he; ⟨s, a, b.le htt⟩
            have hG9 : ∀ e ∈ (xg ++ [[V.int .i64 s14v, .int .i64 (n9v % 8), .int .i64 (1 + lg % 2000)]]), ∃ s n, e = [V.int .i64 s, .int .i64 n, .int .i64 (1 + lg % 2000)] ∧ 0 ≤ n ∧ Given1 na nb pp (1 + lg % 2000) (t + g9 % 600) (lx ++ [(([99], (n9v % 8), (readF 100 nb (t + g9 % 600)) + waitF (1 + lg % 2000) pp) : Ent)]) n s := fun e he => (List.mem_append.1 he).elim (fun he => let ⟨s, n, a, b, c⟩ := hG e he; ⟨s, n, a, b, (c.le htt).app _⟩) (fun he => ⟨_, _, List.mem_singleton.1 he, by omega, let ⟨ts, q1, q2, q3⟩ := hs14v; ⟨ts, (t + g9 % 600), q1, by omega, by omega, q3, List.mem_append_right _ (List.mem_singleton.2 rfl)⟩⟩)
            have hZ9 : ∀ y ∈ lea, ∃ s, y.2 = s - 1 + holdF (1 + lg % 2000) pp ∧ Given1 na nb pp (1 + lg % 2000) (t + g9 % 600) (lx ++ [(([99], (n9v % 8), (readF 100 nb (t + g9 % 600)) + waitF (1 + lg % 2000) pp) : Ent)]) y.1 s := fun y hy => let ⟨s, a, b⟩ := hZ y hy; ⟨s, a, (b.le htt).app _⟩
            refine w_loop (fun kk fr hh => ∃ (ap : Int) (th2 : Int) (gr2 : Int) (ti2 : Int), fr.get p1 = some (va) ∧ fr.get p7 = some (.ptr n3 0) ∧ fr.get p8 = some (.ptr n4 0) ∧ fr.get p10 = some (.ptr n7 0) ∧ fr.get p11 = some (.ptr n8 0) ∧ fr.get p13 = some (vr) ∧ fr.get p14 = some (v20) ∧ fr.get p15 = some (.int .i64 (t + g9 % 600)) ∧ fr.get p16 = some (.int .i64 i) ∧ fr.get p18 = some (.int .i64 (readF 7 na (t + g9 % 600))) ∧ fr.get p20 = some (.int .i64 (readF 100 nb (t + g9 % 600))) ∧ fr.get p25 = some (.int .i64 ap) ∧ (0 ≤ ap) ∧ (ap + (kk : Int) = 8) ∧ (0 ≤ th2) ∧ (th2 ≤ (readF 7 na (t + g9 % 600))) ∧ (0 ≤ ti2) ∧ (ti2 ≤ (readF 100 nb (t + g9 % 600))) ∧ (hh.get n3 = some (.cells [.int .i64 7, .int .i64 na, .int .i64 1000] false)) ∧ (n3.num < hh.next.num) ∧ (hh.get n4 = some (.cells [.int .i64 100, .int .i64 nb, .int .i64 1000] false)) ∧ (n4.num < hh.next.num) ∧ (hh.get n7 = some (.cells [.int .i64 pp, .int .i64 th2, .int .i64 gr2, vs, vl] false)) ∧ (n7.num < hh.next.num) ∧ (hh.get n8 = some (.cells [.int .i64 (1 + lg % 2000), .int .i64 pp, .int .i64 ti2, v16] false)) ∧ (n8.num < hh.next.num) ∧ (Sl 1 hh vs FS xs) ∧ (Sl 2 hh vl FZ (lea.map le)) ∧ (Sl 3 hh v16 F16 ((lx ++ [(([99], (n9v % 8), (readF 100 nb (t + g9 % 600)) + waitF (1 + lg % 2000) pp) : Ent)]).map ge)) ∧ (Sl 1 hh vr FR xr) ∧ (Sl 3 hh v20 [m20] (xg ++ [[V.int .i64 s14v, .int .i64 (n9v % 8), .int .i64 (1 + lg % 2000)]])) ∧ (Ar 4 hh va FA xa) ∧ (n3 ∉ FS) ∧ (n3 ∉ FZ) ∧ (n3 ∉ F16) ∧ (n3 ∉ FR) ∧ (n3 ∉ [m20]) ∧ (n3 ∉ FA) ∧ (n4 ∉ FS) ∧ (n4 ∉ FZ) ∧ (n4 ∉ F16) ∧ (n4 ∉ FR) ∧ (n4 ∉ [m20]) ∧ (n4 ∉ FA) ∧ (n7 ∉ FS) ∧ (n7 ∉ FZ) ∧ (n7 ∉ F16) ∧ (n7 ∉ FR) ∧ (n7 ∉ [m20]) ∧ (n7 ∉ FA) ∧ (n8 ∉ FS) ∧ (n8 ∉ FZ) ∧ (n8 ∉ F16) ∧ (n8 ∉ FR) ∧ (n8 ∉ [m20]) ∧ (n8 ∉ FA) ∧ (∀ x ∈ FS, x ∉ FZ) ∧ (∀ x ∈ FS, x ∉ F16) ∧ (∀ x ∈ FS, x ∉ FR) ∧ (∀ x ∈ FS, x ∉ [m20]) ∧ (∀ x ∈ FZ, x ∉ FS) ∧ (∀ x ∈ FZ, x ∉ F16) ∧ (∀ x ∈ FZ, x ∉ FR) ∧ (∀ x ∈ FZ, x ∉ [m20]) ∧ (∀ x ∈ F16, x ∉ FS) ∧ (∀ x ∈ F16, x ∉ FZ) ∧ (∀ x ∈ F16, x ∉ FR) ∧ (∀ x ∈ F16, x ∉ [m20]) ∧ (∀ x ∈ FR, x ∉ FS) ∧ (∀ x ∈ FR, x ∉ FZ) ∧ (∀ x ∈ FR, x ∉ F16) ∧ (∀ x ∈ FR, x ∉ [m20]) ∧ (∀ x ∈ [m20], x ∉ FS) ∧ (∀ x ∈ [m20], x ∉ FZ) ∧ (∀ x ∈ [m20], x ∉ F16) ∧ (∀ x ∈ [m20], x ∉ FR) ∧ (∀ x ∈ FA, x ∉ FS) ∧ (∀ x ∈ FA, x ∉ FZ) ∧ (∀ x ∈ FA, x ∉ F16) ∧ (∀ x ∈ FA, x ∉ FR) ∧ (∀ x ∈ FA, x ∉ [m20])) (k := 8) (by omega) ⟨0, _, _, _, (gsn rfl (gsn rfl (gsn rfl (gsn rfl (gsn rfl (gsn rfl (gsn rfl (gsn rfl (gsn rfl (gsn rfl (gsn rfl (gsn rfl (gsn rfl (gsn rfl (gsn rfl (gsn rfl (gsn rfl f_p1))))))))))))))))), (gsn rfl (gsn rfl (gsn rfl (gsn rfl (gsn rfl (gsn rfl (gsn rfl (gsn rfl (gsn rfl (gsn rfl (gsn rfl (gsn rfl (gsn rfl (gsn rfl (gsn rfl (gsn rfl (gsn rfl f_p7))))))))))))))))), (gsn rfl (gsn rfl (gsn rfl (gsn rfl (gsn rfl (gsn rfl (gsn rfl (gsn rfl (gsn rfl (gsn rfl (gsn rfl (gsn rfl (gsn rfl (gsn rfl (gsn rfl (gsn rfl (gsn rfl f_p8))))))))))))))))), (gsn rfl (gsn rfl (gsn rfl (gsn rfl (gsn rfl (gsn rfl (gsn rfl (gsn rfl (gsn rfl (gsn rfl (gsn rfl (gsn rfl (gsn rfl (gsn rfl (gsn rfl (gsn rfl (gsn rfl f_p10))))))))))))))))), (gsn rfl (gsn rfl (gsn rfl (gsn rfl (gsn rfl (gsn rfl (gsn rfl (gsn rfl (gsn rfl (gsn rfl (gsn rfl (gsn rfl (gsn rfl (gsn rfl (gsn rfl (gsn rfl (gsn rfl f_p11))))))))))))))))), (gsn rfl (gsn rfl (gsn rfl (gsn rfl (gsn rfl (gsn rfl (gsn rfl (gsn rfl (gsn rfl (gsn rfl (gsn rfl (gsn rfl (gsn rfl (gsn rfl (gsn rfl (gsn rfl (gsn rfl f_p13))))))))))))))))), (gsn rfl gse), (gsn rfl (gsn rfl (gsn rfl (gsn rfl (gsn rfl (gsn rfl (gsn rfl (gsn rfl (gsn rfl (gsn rfl (gsn rfl (gsn rfl (gsn rfl (gsn rfl gse)))))))))))))), (gsn rfl (gsn rfl (gsn rfl (gsn rfl (gsn rfl (gsn rfl (gsn rfl (gsn rfl (gsn rfl (gsn rfl (gsn rfl (gsn rfl (gsn rfl (gsn rfl (gsn rfl (gsn rfl (gsn rfl f_p16))))))))))))))))), (gsn rfl (gsn rfl (gsn rfl (gsn rfl (gsn rfl (gsn rfl (gsn rfl (gsn rfl (gsn rfl (gsn rfl (gsn rfl (gsn rfl (gsn rfl gse))))))))))))), (gsn rfl (gsn rfl (gsn rfl (gsn rfl (gsn rfl (gsn rfl (gsn rfl (gsn rfl (gsn rfl (gsn rfl (gsn rfl gse))))))))))), gse, (by omega), (by omega), (by omega), (by omega), (by omega), (by omega), hb_n3, lt_n3, hb_n4, lt_n4, hb_n7, lt_n7, hb_n8, lt_n8, S, Z, S16, R, S20, A, nf_n3_S, nf_n3_Z, nf_n3_S16, nf_n3_R, nf_n3_S20, nf_n3_A, nf_n4_S, nf_n4_Z, nf_n4_S16, nf_n4_R, nf_n4_S20, nf_n4_A, nf_n7_S, nf_n7_Z, nf_n7_S16, nf_n7_R, nf_n7_S20, nf_n7_A, nf_n8_S, nf_n8_Z, nf_n8_S16, nf_n8_R, nf_n8_S20, nf_n8_A, dj_S_Z, dj_S_S16, dj_S_R, dj_S_S20, dj_Z_S, dj_Z_S16, dj_Z_R, dj_Z_S20, dj_S16_S, dj_S16_Z, dj_S16_R, dj_S16_S20, dj_R_S, dj_R_Z, dj_R_S16, dj_R_S20, dj_S20_S, dj_S20_Z, dj_S20_S16, dj_S20_R, dj_A_S, dj_A_Z, dj_A_S16, dj_A_R, dj_A_S20⟩ ?_
            refine fun kk fr hh => ex_i fun ap => ex_i fun th2 => ex_i fun gr2 => ex_i fun ti2 => and_i fun f_p1 => and_i fun f_p7 => and_i fun f_p8 => and_i fun f_p10 => and_i fun f_p11 => and_i fun f_p13 => and_i fun f_p14 => and_i fun f_p15 => and_i fun f_p16 => and_i fun f_p18 => and_i fun f_p20 => and_i fun f_p25 => and_i fun hap0 => and_i fun hap1 => and_i fun hth2 => and_i fun hth3 => and_i fun hti2 => and_i fun hti3 => and_i fun hb_n3 => and_i fun lt_n3 => and_i fun hb_n4 => and_i fun lt_n4 => and_i fun hb_n7 => and_i fun lt_n7 => and_i fun hb_n8 => and_i fun lt_n8 => and_i fun S => and_i fun Z => and_i fun S16 => and_i fun R => and_i fun S20 => and_i fun A => and_i fun nf_n3_S => and_i fun nf_n3_Z => and_i fun nf_n3_S16 => and_i fun nf_n3_R => and_i fun nf_n3_S20 => and_i fun nf_n3_A => and_i fun nf_n4_S => and_i fun nf_n4_Z => and_i fun nf_n4_S16 => and_i fun nf_n4_R => and_i fun nf_n4_S20 => and_i fun nf_n4_A => and_i fun nf_n7_S => and_i fun nf_n7_Z => and_i fun nf_n7_S16 => and_i fun nf_n7_R => and_i fun nf_n7_S20 => and_i fun nf_n7_A => and_i fun nf_n8_S => and_i fun nf_n8_Z => and_i fun nf_n8_S16 => and_i fun nf_n8_R => and_i fun nf_n8_S20 => and_i fun nf_n8_A => and_i fun dj_S_Z => and_i fun dj_S_S16 => and_i fun dj_S_R => and_i fun dj_S_S20 => and_i fun dj_Z_S => and_i fun dj_Z_S16 => and_i fun dj_Z_R => and_i fun dj_Z_S20 => and_i fun dj_S16_S => and_i fun dj_S16_Z => and_i fun dj_S16_R => and_i fun dj_S16_S20 => and_i fun dj_R_S => and_i fun dj_R_Z => and_i fun dj_R_S16 => and_i fun dj_R_S20 => and_i fun dj_S20_S => and_i fun dj_S20_Z => and_i fun dj_S20_S16 => and_i fun dj_S20_R => and_i fun dj_A_S => and_i fun dj_A_Z => and_i fun dj_A_S16 => and_i fun dj_A_R => fun dj_A_S20 => ?_
            refine w_seq ?_
            refine w_seq ?_
            refine w_reg ?_
            refine w_mv_int (evs' f_p25) ?_
            refine w_lt rfl rfl (fun c10 => ?_) (fun c10 => ?_)
            ·
              refine w_kp ?_
              refine w_nil ?_
              refine w_cond (evs' gse) (fun _ => ?_) (fun hh => nomatch hh)
              refine w_skip ?_
              refine w_seq ?_
              refine w_block ?_
              refine w_seq ?_
              refine w_reg ?_
              refine w_mv_ptr (evs' (gsn rfl f_p10)) ?_
              refine w_mv_int (evs' (gsn rfl f_p18)) ?_
              refine w_mv_int (evs' (gsn rfl f_p25)) ?_
              refine w_call (holds_ok _ _ _ n7 _ _ _ _ _ _ _ _ _ hb_n7 Z nf_n7_Z lt_n7 (by omega) (by omega) (fun h21 t21 ho21 hq Sq kp21 => ?_))
              have hb_n3 := kp21.get hb_n3 lt_n3 (ni1 (by omega))
              have hb_n4 := kp21.get hb_n4 lt_n4 (ni1 (by omega))
              have hb_n8 := kp21.get hb_n8 lt_n8 (ni1 (by omega))
              have S := S.keep kp21 (nF1 nf_n7_S)
              have S16 := S16.keep kp21 (nF1 nf_n7_S16)
              have R := R.keep kp21 (nF1 nf_n7_R)
              have S20 := S20.keep kp21 (nF1 nf_n7_S20)
              have A := A.keep kp21 (nF1 nf_n7_A)
              have lt_n3 := kp21.lt lt_n3
              have lt_n4 := kp21.lt lt_n4
              have lt_n7 := kp21.lt lt_n7
              have lt_n8 := kp21.lt lt_n8
              have hr : rd (readF 7 na (t + g9 % 600)) th2 = (readF 7 na (t + g9 % 600)) := by unfold rd; omega
              have hmx : max ap 0 = ap := by omega
              rw [hr] at hq ho21
              rw [hmx] at ho21
              have hb_n7 := hq
              have Z := Sq
              cases t21
              ·
                refine w_mv_bool rfl ?_
                refine w_gop rfl (fun hh => nomatch hh) (fun _ => ?_)
                refine w_gop rfl (fun hh => nomatch hh) (fun _ => ?_)
                refine w_gop rfl (fun hh => nomatch hh) (fun _ => ?_)
                refine w_gop rfl (fun hh => nomatch hh) (fun _ => ?_)
                refine w_gcall rfl (fun hh => nomatch hh) (fun _ => ?_)
                refine w_pick rfl (fun hh => nomatch hh) (fun _ => ?_)
                refine w_mv_bool rfl ?_
                refine w_kp ?_
                refine w_nil ?_
                refine w_cond (evs' gse) (fun hh => nomatch hh) (fun _ => ?_)
                refine w_skip ?_
                refine w_reg ?_
                refine w_mv_int (evs' (gsn rfl (gsn rfl f_p25))) ?_
                refine w_add rfl rfl (wr64 (by omega) (by omega)) ?_
                refine w_mv_int rfl ?_
                refine w_kp ?_
                refine w_nil ?_
                exact ⟨kk - 1, by omega, ap + 1, _, _, _, (gsn rfl (gsn rfl (gsn rfl f_p1))), (gsn rfl (gsn rfl (gsn rfl f_p7))), (gsn rfl (gsn rfl (gsn rfl f_p8))), (gsn rfl (gsn rfl (gsn rfl f_p10))), (gsn rfl (gsn rfl (gsn rfl f_p11))), (gsn rfl (gsn rfl (gsn rfl f_p13))), (gsn rfl (gsn rfl (gsn rfl f_p14))), (gsn rfl (gsn rfl (gsn rfl f_p15))), (gsn rfl (gsn rfl (gsn rfl f_p16))), (gsn rfl (gsn rfl (gsn rfl f_p18))), (gsn rfl (gsn rfl (gsn rfl f_p20))), gse, (by omega), (by omega), (by omega), (by omega), (by omega), (by omega), hb_n3, lt_n3, hb_n4, lt_n4, hb_n7, lt_n7, hb_n8, lt_n8, S, Z, S16, R, S20, A, nf_n3_S, nf_n3_Z, nf_n3_S16, nf_n3_R, nf_n3_S20, nf_n3_A, nf_n4_S, nf_n4_Z, nf_n4_S16, nf_n4_R, nf_n4_S20, nf_n4_A, nf_n7_S, nf_n7_Z, nf_n7_S16, nf_n7_R, nf_n7_S20, nf_n7_A, nf_n8_S, nf_n8_Z, nf_n8_S16, nf_n8_R, nf_n8_S20, nf_n8_A, dj_S_Z, dj_S_S16, dj_S_R, dj_S_S20, dj_Z_S, dj_Z_S16, dj_Z_R, dj_Z_S20, dj_S16_S, dj_S16_Z, dj_S16_R, dj_S16_S20, dj_R_S, dj_R_Z, dj_R_S16, dj_R_S20, dj_S20_S, dj_S20_Z, dj_S20_S16, dj_S20_R, dj_A_S, dj_A_Z, dj_A_S16, dj_A_R, dj_A_S20⟩
              ·
                have ho21 := of_decide_eq_true ho21.symm
                refine w_mv_bool rfl ?_
                refine w_gop rfl (fun _ => ?_) (fun hh => nomatch hh)
                refine w_mv_ptr (evs' (gsn rfl f_p11)) ?_
                refine w_gop rfl (fun _ => ?_) (fun hh => nomatch hh)
                refine w_mv_int (evs' (gsn rfl f_p25)) ?_
                refine w_gop rfl (fun _ => ?_) (fun hh => nomatch hh)
                refine w_add rfl rfl (wr64 (by omega) (by omega)) ?_
                refine w_gop rfl (fun _ => ?_) (fun hh => nomatch hh)
                refine w_mv_int (evs' (gsn rfl f_p20)) ?_
                refine w_gcall rfl (fun _ => ?_) (fun hh => nomatch hh)
                refine w_call (free_ok _ _ _ n8 _ _ _ _ _ _ _ _ _ hb_n8 S16 nf_n8_S16 lt_n8 (by rw [List.length_append, List.length_singleton]; omega) (by omega) (fun h22 hfr22 hq Sq kp22 => ?_) (fun h22 hfr22 hq Sq kp22 => ?_))
                ·
                  have hr : rd (readF 100 nb (t + g9 % 600)) ti2 = (readF 100 nb (t + g9 % 600)) := by unfold rd; omega
                  rw [hr] at hfr22
                  obtain ⟨y, hy, hbl⟩ := safe_law hp0 hp1 hna0 hnb1 (by omega) (by omega) (by omega) hZ9 ho21
                  exact absurd hbl (hfr22 y hy)
                ·
                  have hb_n3 := kp22.get hb_n3 lt_n3 (ni1 (by omega))
                  have hb_n4 := kp22.get hb_n4 lt_n4 (ni1 (by omega))
                  have hb_n7 := kp22.get hb_n7 lt_n7 (ni1 (by omega))
                  have S := S.keep kp22 (nF1 nf_n8_S)
                  have Z := Z.keep kp22 (nF1 nf_n8_Z)
                  have R := R.keep kp22 (nF1 nf_n8_R)
                  have S20 := S20.keep kp22 (nF1 nf_n8_S20)
                  have A := A.keep kp22 (nF1 nf_n8_A)
                  have lt_n3 := kp22.lt lt_n3
                  have lt_n4 := kp22.lt lt_n4
                  have lt_n7 := kp22.lt lt_n7
                  have lt_n8 := kp22.lt lt_n8
                  have hr : rd (readF 100 nb (t + g9 % 600)) ti2 = (readF 100 nb (t + g9 % 600)) := by unfold rd; omega
                  rw [hr] at hq
                  have hb_n8 := hq
                  have S16 := Sq
                  refine w_pick rfl (fun _ => ?_) (fun hh => nomatch hh)
                  refine w_mv_bool rfl ?_
                  refine w_kp ?_
                  refine w_nil ?_
                  refine w_cond (evs' gse) (fun hh => nomatch hh) (fun _ => ?_)
                  refine w_skip ?_
                  refine w_reg ?_
                  refine w_mv_int (evs' (gsn rfl (gsn rfl f_p25))) ?_
                  refine w_add rfl rfl (wr64 (by omega) (by omega)) ?_
                  refine w_mv_int rfl ?_
                  refine w_kp ?_
                  refine w_nil ?_
                  exact ⟨kk - 1, by omega, ap + 1, _, _, _, (gsn rfl (gsn rfl (gsn rfl f_p1))), (gsn rfl (gsn rfl (gsn rfl f_p7))), (gsn rfl (gsn rfl (gsn rfl f_p8))), (gsn rfl (gsn rfl (gsn rfl f_p10))), (gsn rfl (gsn rfl (gsn rfl f_p11))), (gsn rfl (gsn rfl (gsn rfl f_p13))), (gsn rfl (gsn rfl (gsn rfl f_p14))), (gsn rfl (gsn rfl (gsn rfl f_p15))), (gsn rfl (gsn rfl (gsn rfl f_p16))), (gsn rfl (gsn rfl (gsn rfl f_p18))), (gsn rfl (gsn rfl (gsn rfl f_p20))), gse, (by omega), (by omega), (by omega), (by omega), (by omega), (by omega), hb_n3, lt_n3, hb_n4, lt_n4, hb_n7, lt_n7, hb_n8, lt_n8, S, Z, S16, R, S20, A, nf_n3_S, nf_n3_Z, nf_n3_S16, nf_n3_R, nf_n3_S20, nf_n3_A, nf_n4_S, nf_n4_Z, nf_n4_S16, nf_n4_R, nf_n4_S20, nf_n4_A, nf_n7_S, nf_n7_Z, nf_n7_S16, nf_n7_R, nf_n7_S20, nf_n7_A, nf_n8_S, nf_n8_Z, nf_n8_S16, nf_n8_R, nf_n8_S20, nf_n8_A, dj_S_Z, dj_S_S16, dj_S_R, dj_S_S20, dj_Z_S, dj_Z_S16, dj_Z_R, dj_Z_S20, dj_S16_S, dj_S16_Z, dj_S16_R, dj_S16_S20, dj_R_S, dj_R_Z, dj_R_S16, dj_R_S20, dj_S20_S, dj_S20_Z, dj_S20_S16, dj_S20_R, dj_A_S, dj_A_Z, dj_A_S16, dj_A_R, dj_A_S20⟩
            ·
              refine w_kp ?_
              refine w_nil ?_
              refine w_cond (evs' gse) (fun hh => nomatch hh) (fun _ => ?_)
              refine w_exit ?_
              refine w_reg ?_
              refine w_mv_int (evs' (gsn rfl f_p16)) ?_
              refine w_add rfl rfl (wr64 (by omega) (by omega)) ?_
              refine w_mv_int rfl ?_
              refine w_kp ?_
              refine w_nil ?_
              exact ⟨kk0 - 1, by omega, i + 1, _, _, _, _, _, _, _, _, _, _, _, _, _, _, _, _, _, _, _, (gsn rfl (gsn rfl f_p1)), (gsn rfl (gsn rfl f_p7)), (gsn rfl (gsn rfl f_p8)), (gsn rfl (gsn rfl f_p10)), (gsn rfl (gsn rfl f_p11)), (gsn rfl (gsn rfl f_p13)), (gsn rfl (gsn rfl f_p14)), (gsn rfl (gsn rfl f_p15)), gse, (by omega), (by omega), (by omega), (by omega), (by omega), (by omega), (by omega), (by omega), (hu), (hlu), (hls), (hR9), (hG9), (hZ9), (by omega), (by rw [List.length_append, List.length_singleton]; omega), (by rw [List.length_append, List.length_singleton]; omega), hb_n3, lt_n3, hb_n4, lt_n4, hb_n7, lt_n7, hb_n8, lt_n8, S, Z, S16, R, S20, A, nf_n3_S, nf_n3_Z, nf_n3_S16, nf_n3_R, nf_n3_S20, nf_n3_A, nf_n4_S, nf_n4_Z, nf_n4_S16, nf_n4_R, nf_n4_S20, nf_n4_A, nf_n7_S, nf_n7_Z, nf_n7_S16, nf_n7_R, nf_n7_S20, nf_n7_A, nf_n8_S, nf_n8_Z, nf_n8_S16, nf_n8_R, nf_n8_S20, nf_n8_A, dj_S_Z, dj_S_S16, dj_S_R, dj_S_S20, dj_Z_S, dj_Z_S16, dj_Z_R, dj_Z_S20, dj_S16_S, dj_S16_Z, dj_S16_R, dj_S16_S20, dj_R_S, dj_R_Z, dj_R_S16, dj_R_S20, dj_S20_S, dj_S20_Z, dj_S20_S16, dj_S20_R, dj_A_S, dj_A_Z, dj_A_S16, dj_A_R, dj_A_S20⟩
          ·
            refine w_kp ?_
            refine w_nil ?_
            refine w_cond (evs' gse) (fun hh => nomatch hh) (fun _ => ?_)
            refine w_skip ?_
            refine w_seq ?_
            refine w_reg ?_
            refine w_mv_int rfl ?_
            refine w_kp ?_
            refine w_nil ?_
            refine w_block ?_
            obtain ⟨kk0, hkk0⟩ : ∃ q, q = kk := ⟨kk, rfl⟩
            have htt : t ≤ (t + g9 % 600) := by omega
            have hR9 : ∀ e ∈ xr, ∃ s, e = [V.int .i64 s] ∧ Asked na (t + g9 % 600) s := fun e he => let ⟨s, a, b⟩ := hR e he; ⟨s, a, b.le htt⟩
            have hG9 : ∀ e ∈ xg, ∃ s n, e = [V.int .i64 s, .int .i64 n, .int .i64 (1 + lg % 2000)] ∧ 0 ≤ n ∧ Given1 na nb pp (1 + lg % 2000) (t + g9 % 600) lx n s := fun e he => let ⟨s, n, a, b, c⟩ := hG e he; ⟨s, n, a, b, (c.le htt)⟩
            have hZ9 : ∀ y ∈ lea, ∃ s, y.2 = s - 1 + holdF (1 + lg % 2000) pp ∧ Given1 na nb pp (1 + lg % 2000) (t + g9 % 600) lx y.1 s := fun y hy => let ⟨s, a, b⟩ := hZ y hy; ⟨s, a, (b.le htt)⟩
            refine w_loop (fun kk fr hh => ∃ (ap : Int) (th2 : Int) (gr2 : Int) (ti2 : Int), fr.get p1 = some (va) ∧ fr.get p7 = some (.ptr n3 0) ∧ fr.get p8 = some (.ptr n4 0) ∧ fr.get p10 = some (.ptr n7 0) ∧ fr.get p11 = some (.ptr n8 0) ∧ fr.get p13 = some (vr) ∧ fr.get p14 = some (vg) ∧ fr.get p15 = some (.int .i64 (t + g9 % 600)) ∧ fr.get p16 = some (.int .i64 i) ∧ fr.get p18 = some (.int .i64 (readF 7 na (t + g9 % 600))) ∧ fr.get p20 = some (.int .i64 (readF 100 nb (t + g9 % 600))) ∧ fr.get p25 = some (.int .i64 ap) ∧ (0 ≤ ap) ∧ (ap + (kk : Int) = 8) ∧ (0 ≤ th2) ∧ (th2 ≤ (readF 7 na (t + g9 % 600))) ∧ (0 ≤ ti2) ∧ (ti2 ≤ (readF 100 nb (t + g9 % 600))) ∧ (hh.get n3 = some (.cells [.int .i64 7, .int .i64 na, .int .i64 1000] false)) ∧ (n3.num < hh.next.num) ∧ (hh.get n4 = some (.cells [.int .i64 100, .int .i64 nb, .int .i64 1000] false)) ∧ (n4.num < hh.next.num) ∧ (hh.get n7 = some (.cells [.int .i64 pp, .int .i64 th2, .int .i64 gr2, vs, vl] false)) ∧ (n7.num < hh.next.num) ∧ (hh.get n8 = some (.cells [.int .i64 (1 + lg % 2000), .int .i64 pp, .int .i64 ti2, vx] false)) ∧ (n8.num < hh.next.num) ∧ (Sl 1 hh vs FS xs) ∧ (Sl 2 hh vl FZ (lea.map le)) ∧ (Sl 3 hh vx FX (lx.map ge)) ∧ (Sl 1 hh vr FR xr) ∧ (Sl 3 hh vg FG xg) ∧ (Ar 4 hh va FA xa) ∧ (n3 ∉ FS) ∧ (n3 ∉ FZ) ∧ (n3 ∉ FX) ∧ (n3 ∉ FR) ∧ (n3 ∉ FG) ∧ (n3 ∉ FA) ∧ (n4 ∉ FS) ∧ (n4 ∉ FZ) ∧ (n4 ∉ FX) ∧ (n4 ∉ FR) ∧ (n4 ∉ FG) ∧ (n4 ∉ FA) ∧ (n7 ∉ FS) ∧ (n7 ∉ FZ) ∧ (n7 ∉ FX) ∧ (n7 ∉ FR) ∧ (n7 ∉ FG) ∧ (n7 ∉ FA) ∧ (n8 ∉ FS) ∧ (n8 ∉ FZ) ∧ (n8 ∉ FX) ∧ (n8 ∉ FR) ∧ (n8 ∉ FG) ∧ (n8 ∉ FA) ∧ (∀ x ∈ FS, x ∉ FZ) ∧ (∀ x ∈ FS, x ∉ FX) ∧ (∀ x ∈ FS, x ∉ FR) ∧ (∀ x ∈ FS, x ∉ FG) ∧ (∀ x ∈ FZ, x ∉ FS) ∧ (∀ x ∈ FZ, x ∉ FX) ∧ (∀ x ∈ FZ, x ∉ FR) ∧ (∀ x ∈ FZ, x ∉ FG) ∧ (∀ x ∈ FX, x ∉ FS) ∧ (∀ x ∈ FX, x ∉ FZ) ∧ (∀ x ∈ FX, x ∉ FR) ∧ (∀ x ∈ FX, x ∉ FG) ∧ (∀ x ∈ FR, x ∉ FS) ∧ (∀ x ∈ FR, x ∉ FZ) ∧ (∀ x ∈ FR, x ∉ FX) ∧ (∀ x ∈ FR, x ∉ FG) ∧ (∀ x ∈ FG, x ∉ FS) ∧ (∀ x ∈ FG, x ∉ FZ) ∧ (∀ x ∈ FG, x ∉ FX) ∧ (∀ x ∈ FG, x ∉ FR) ∧ (∀ x ∈ FA, x ∉ FS) ∧ (∀ x ∈ FA, x ∉ FZ) ∧ (∀ x ∈ FA, x ∉ FX) ∧ (∀ x ∈ FA, x ∉ FR) ∧ (∀ x ∈ FA, x ∉ FG)) (k := 8) (by omega) ⟨0, _, _, _, (gsn rfl (gsn rfl (gsn rfl (gsn rfl (gsn rfl (gsn rfl (gsn rfl (gsn rfl (gsn rfl (gsn rfl (gsn rfl (gsn rfl (gsn rfl f_p1))))))))))))), (gsn rfl (gsn rfl (gsn rfl (gsn rfl (gsn rfl (gsn rfl (gsn rfl (gsn rfl (gsn rfl (gsn rfl (gsn rfl (gsn rfl (gsn rfl f_p7))))))))))))), (gsn rfl (gsn rfl (gsn rfl (gsn rfl (gsn rfl (gsn rfl (gsn rfl (gsn rfl (gsn rfl (gsn rfl (gsn rfl (gsn rfl (gsn rfl f_p8))))))))))))), (gsn rfl (gsn rfl (gsn rfl (gsn rfl (gsn rfl (gsn rfl (gsn rfl (gsn rfl (gsn rfl (gsn rfl (gsn rfl (gsn rfl (gsn rfl f_p10))))))))))))), (gsn rfl (gsn rfl (gsn rfl (gsn rfl (gsn rfl (gsn rfl (gsn rfl (gsn rfl (gsn rfl (gsn rfl (gsn rfl (gsn rfl (gsn rfl f_p11))))))))))))), (gsn rfl (gsn rfl (gsn rfl (gsn rfl (gsn rfl (gsn rfl (gsn rfl (gsn rfl (gsn rfl (gsn rfl (gsn rfl (gsn rfl (gsn rfl f_p13))))))))))))), (gsn rfl (gsn rfl (gsn rfl (gsn rfl (gsn rfl (gsn rfl (gsn rfl (gsn rfl (gsn rfl (gsn rfl (gsn rfl (gsn rfl (gsn rfl f_p14))))))))))))), (gsn rfl (gsn rfl (gsn rfl (gsn rfl (gsn rfl (gsn rfl (gsn rfl (gsn rfl (gsn rfl (gsn rfl gse)))))))))), (gsn rfl (gsn rfl (gsn rfl (gsn rfl (gsn rfl (gsn rfl (gsn rfl (gsn rfl (gsn rfl (gsn rfl (gsn rfl (gsn rfl (gsn rfl f_p16))))))))))))), (gsn rfl (gsn rfl (gsn rfl (gsn rfl (gsn rfl (gsn rfl (gsn rfl (gsn rfl (gsn rfl gse))))))))), (gsn rfl (gsn rfl (gsn rfl (gsn rfl (gsn rfl (gsn rfl (gsn rfl gse))))))), gse, (by omega), (by omega), (by omega), (by omega), (by omega), (by omega), hb_n3, lt_n3, hb_n4, lt_n4, hb_n7, lt_n7, hb_n8, lt_n8, S, Z, X, R, G, A, nf_n3_S, nf_n3_Z, nf_n3_X, nf_n3_R, nf_n3_G, nf_n3_A, nf_n4_S, nf_n4_Z, nf_n4_X, nf_n4_R, nf_n4_G, nf_n4_A, nf_n7_S, nf_n7_Z, nf_n7_X, nf_n7_R, nf_n7_G, nf_n7_A, nf_n8_S, nf_n8_Z, nf_n8_X, nf_n8_R, nf_n8_G, nf_n8_A, dj_S_Z, dj_S_X, dj_S_R, dj_S_G, dj_Z_S, dj_Z_X, dj_Z_R, dj_Z_G, dj_X_S, dj_X_Z, dj_X_R, dj_X_G, dj_R_S, dj_R_Z, dj_R_X, dj_R_G, dj_G_S, dj_G_Z, dj_G_X, dj_G_R, dj_A_S, dj_A_Z, dj_A_X, dj_A_R, dj_A_G⟩ ?_
            refine fun kk fr hh => ex_i fun ap => ex_i fun th2 => ex_i fun gr2 => ex_i fun ti2 => and_i fun f_p1 => and_i fun f_p7 => and_i fun f_p8 => and_i fun f_p10 => and_i fun f_p11 => and_i fun f_p13 => and_i fun f_p14 => and_i fun f_p15 => and_i fun f_p16 => and_i fun f_p18 => and_i fun f_p20 => and_i fun f_p25 => and_i fun hap0 => and_i fun hap1 => and_i fun hth2 => and_i fun hth3 => and_i fun hti2 => and_i fun hti3 => and_i fun hb_n3 => and_i fun lt_n3 => and_i fun hb_n4 => and_i fun lt_n4 => and_i fun hb_n7 => and_i fun lt_n7 => and_i fun hb_n8 => and_i fun lt_n8 => and_i fun S => and_i fun Z => and_i fun X => and_i fun R => and_i fun G => and_i fun A => and_i fun nf_n3_S => and_i fun nf_n3_Z => and_i fun nf_n3_X => and_i fun nf_n3_R => and_i fun nf_n3_G => and_i fun nf_n3_A => and_i fun nf_n4_S => and_i fun nf_n4_Z => and_i fun nf_n4_X => and_i fun nf_n4_R => and_i fun nf_n4_G => and_i fun nf_n4_A => and_i fun nf_n7_S => and_i fun nf_n7_Z => and_i fun nf_n7_X => and_i fun nf_n7_R => and_i fun nf_n7_G => and_i fun nf_n7_A => and_i fun nf_n8_S => and_i fun nf_n8_Z => and_i fun nf_n8_X => and_i fun nf_n8_R => and_i fun nf_n8_G => and_i fun nf_n8_A => and_i fun dj_S_Z => and_i fun dj_S_X => and_i fun dj_S_R => and_i fun dj_S_G => and_i fun dj_Z_S => and_i fun dj_Z_X => and_i fun dj_Z_R => and_i fun dj_Z_G => and_i fun dj_X_S => and_i fun dj_X_Z => and_i fun dj_X_R => and_i fun dj_X_G => and_i fun dj_R_S => and_i fun dj_R_Z => and_i fun dj_R_X => and_i fun dj_R_G => and_i fun dj_G_S => and_i fun dj_G_Z => and_i fun dj_G_X => and_i fun dj_G_R => and_i fun dj_A_S => and_i fun dj_A_Z => and_i fun dj_A_X => and_i fun dj_A_R => fun dj_A_G => ?_
            refine w_seq ?_
            refine w_seq ?_
            refine w_reg ?_
            refine w_mv_int (evs' f_p25) ?_
            refine w_lt rfl rfl (fun c11 => ?_) (fun c11 => ?_)
            ·
              refine w_kp ?_
              refine w_nil ?_
              refine w_cond (evs' gse) (fun _ => ?_) (fun hh => nomatch hh)
              refine w_skip ?_
              refine w_seq ?_
              refine w_block ?_
              refine w_seq ?_
              refine w_reg ?_
              refine w_mv_ptr (evs' (gsn rfl f_p10)) ?_
              refine w_mv_int (evs' (gsn rfl f_p18)) ?_
              refine w_mv_int (evs' (gsn rfl f_p25)) ?_
              refine w_call (holds_ok _ _ _ n7 _ _ _ _ _ _ _ _ _ hb_n7 Z nf_n7_Z lt_n7 (by omega) (by omega) (fun h14 t14 ho14 hq Sq kp14 => ?_))
              have hb_n3 := kp14.get hb_n3 lt_n3 (ni1 (by omega))
              have hb_n4 := kp14.get hb_n4 lt_n4 (ni1 (by omega))
              have hb_n8 := kp14.get hb_n8 lt_n8 (ni1 (by omega))
              have S := S.keep kp14 (nF1 nf_n7_S)
              have X := X.keep kp14 (nF1 nf_n7_X)
              have R := R.keep kp14 (nF1 nf_n7_R)
              have G := G.keep kp14 (nF1 nf_n7_G)
              have A := A.keep kp14 (nF1 nf_n7_A)
              have lt_n3 := kp14.lt lt_n3
              have lt_n4 := kp14.lt lt_n4
              have lt_n7 := kp14.lt lt_n7
              have lt_n8 := kp14.lt lt_n8
              have hr : rd (readF 7 na (t + g9 % 600)) th2 = (readF 7 na (t + g9 % 600)) := by unfold rd; omega
              have hmx : max ap 0 = ap := by omega
              rw [hr] at hq ho14
              rw [hmx] at ho14
              have hb_n7 := hq
              have Z := Sq
              cases t14
              ·
                refine w_mv_bool rfl ?_
                refine w_gop rfl (fun hh => nomatch hh) (fun _ => ?_)
                refine w_gop rfl (fun hh => nomatch hh) (fun _ => ?_)
                refine w_gop rfl (fun hh => nomatch hh) (fun _ => ?_)
                refine w_gop rfl (fun hh => nomatch hh) (fun _ => ?_)
                refine w_gcall rfl (fun hh => nomatch hh) (fun _ => ?_)
                refine w_pick rfl (fun hh => nomatch hh) (fun _ => ?_)
                refine w_mv_bool rfl ?_
                refine w_kp ?_
                refine w_nil ?_
                refine w_cond (evs' gse) (fun hh => nomatch hh) (fun _ => ?_)
                refine w_skip ?_
                refine w_reg ?_
                refine w_mv_int (evs' (gsn rfl (gsn rfl f_p25))) ?_
                refine w_add rfl rfl (wr64 (by omega) (by omega)) ?_
                refine w_mv_int rfl ?_
                refine w_kp ?_
                refine w_nil ?_
                exact ⟨kk - 1, by omega, ap + 1, _, _, _, (gsn rfl (gsn rfl (gsn rfl f_p1))), (gsn rfl (gsn rfl (gsn rfl f_p7))), (gsn rfl (gsn rfl (gsn rfl f_p8))), (gsn rfl (gsn rfl (gsn rfl f_p10))), (gsn rfl (gsn rfl (gsn rfl f_p11))), (gsn rfl (gsn rfl (gsn rfl f_p13))), (gsn rfl (gsn rfl (gsn rfl f_p14))), (gsn rfl (gsn rfl (gsn rfl f_p15))), (gsn rfl (gsn rfl (gsn rfl f_p16))), (gsn rfl (gsn rfl (gsn rfl f_p18))), (gsn rfl (gsn rfl (gsn rfl f_p20))), gse, (by omega), (by omega), (by omega), (by omega), (by omega), (by omega), hb_n3, lt_n3, hb_n4, lt_n4, hb_n7, lt_n7, hb_n8, lt_n8, S, Z, X, R, G, A, nf_n3_S, nf_n3_Z, nf_n3_X, nf_n3_R, nf_n3_G, nf_n3_A, nf_n4_S, nf_n4_Z, nf_n4_X, nf_n4_R, nf_n4_G, nf_n4_A, nf_n7_S, nf_n7_Z, nf_n7_X, nf_n7_R, nf_n7_G, nf_n7_A, nf_n8_S, nf_n8_Z, nf_n8_X, nf_n8_R, nf_n8_G, nf_n8_A, dj_S_Z, dj_S_X, dj_S_R, dj_S_G, dj_Z_S, dj_Z_X, dj_Z_R, dj_Z_G, dj_X_S, dj_X_Z, dj_X_R, dj_X_G, dj_R_S, dj_R_Z, dj_R_X, dj_R_G, dj_G_S, dj_G_Z, dj_G_X, dj_G_R, dj_A_S, dj_A_Z, dj_A_X, dj_A_R, dj_A_G⟩
              ·
                have ho14 := of_decide_eq_true ho14.symm
                refine w_mv_bool rfl ?_
                refine w_gop rfl (fun _ => ?_) (fun hh => nomatch hh)
                refine w_mv_ptr (evs' (gsn rfl f_p11)) ?_
                refine w_gop rfl (fun _ => ?_) (fun hh => nomatch hh)
                refine w_mv_int (evs' (gsn rfl f_p25)) ?_
                refine w_gop rfl (fun _ => ?_) (fun hh => nomatch hh)
                refine w_add rfl rfl (wr64 (by omega) (by omega)) ?_
                refine w_gop rfl (fun _ => ?_) (fun hh => nomatch hh)
                refine w_mv_int (evs' (gsn rfl f_p20)) ?_
                refine w_gcall rfl (fun _ => ?_) (fun hh => nomatch hh)
                refine w_call (free_ok _ _ _ n8 _ _ _ _ _ _ _ _ _ hb_n8 X nf_n8_X lt_n8 (by omega) (by omega) (fun h15 hfr15 hq Sq kp15 => ?_) (fun h15 hfr15 hq Sq kp15 => ?_))
                ·
                  have hr : rd (readF 100 nb (t + g9 % 600)) ti2 = (readF 100 nb (t + g9 % 600)) := by unfold rd; omega
                  rw [hr] at hfr15
                  obtain ⟨y, hy, hbl⟩ := safe_law hp0 hp1 hna0 hnb1 (by omega) (by omega) (by omega) hZ9 ho14
                  exact absurd hbl (hfr15 y hy)
                ·
                  have hb_n3 := kp15.get hb_n3 lt_n3 (ni1 (by omega))
                  have hb_n4 := kp15.get hb_n4 lt_n4 (ni1 (by omega))
                  have hb_n7 := kp15.get hb_n7 lt_n7 (ni1 (by omega))
                  have S := S.keep kp15 (nF1 nf_n8_S)
                  have Z := Z.keep kp15 (nF1 nf_n8_Z)
                  have R := R.keep kp15 (nF1 nf_n8_R)
                  have G := G.keep kp15 (nF1 nf_n8_G)
                  have A := A.keep kp15 (nF1 nf_n8_A)
                  have lt_n3 := kp15.lt lt_n3
                  have lt_n4 := kp15.lt lt_n4
                  have lt_n7 := kp15.lt lt_n7
                  have lt_n8 := kp15.lt lt_n8
                  have hr : rd (readF 100 nb (t + g9 % 600)) ti2 = (readF 100 nb (t + g9 % 600)) := by unfold rd; omega
                  rw [hr] at hq
                  have hb_n8 := hq
                  have X := Sq
                  refine w_pick rfl (fun _ => ?_) (fun hh => nomatch hh)
                  refine w_mv_bool rfl ?_
                  refine w_kp ?_
                  refine w_nil ?_
                  refine w_cond (evs' gse) (fun hh => nomatch hh) (fun _ => ?_)
                  refine w_skip ?_
                  refine w_reg ?_
                  refine w_mv_int (evs' (gsn rfl (gsn rfl f_p25))) ?_
                  refine w_add rfl rfl (wr64 (by omega) (by omega)) ?_
                  refine w_mv_int rfl ?_
                  refine w_kp ?_
                  refine w_nil ?_
                  exact ⟨kk - 1, by omega, ap + 1, _, _, _, (gsn rfl (gsn rfl (gsn rfl f_p1))), (gsn rfl (gsn rfl (gsn rfl f_p7))), (gsn rfl (gsn rfl (gsn rfl f_p8))), (gsn rfl (gsn rfl (gsn rfl f_p10))), (gsn rfl (gsn rfl (gsn rfl f_p11))), (gsn rfl (gsn rfl (gsn rfl f_p13))), (gsn rfl (gsn rfl (gsn rfl f_p14))), (gsn rfl (gsn rfl (gsn rfl f_p15))), (gsn rfl (gsn rfl (gsn rfl f_p16))), (gsn rfl (gsn rfl (gsn rfl f_p18))), (gsn rfl (gsn rfl (gsn rfl f_p20))), gse, (by omega), (by omega), (by omega), (by omega), (by omega), (by omega), hb_n3, lt_n3, hb_n4, lt_n4, hb_n7, lt_n7, hb_n8, lt_n8, S, Z, X, R, G, A, nf_n3_S, nf_n3_Z, nf_n3_X, nf_n3_R, nf_n3_G, nf_n3_A, nf_n4_S, nf_n4_Z, nf_n4_X, nf_n4_R, nf_n4_G, nf_n4_A, nf_n7_S, nf_n7_Z, nf_n7_X, nf_n7_R, nf_n7_G, nf_n7_A, nf_n8_S, nf_n8_Z, nf_n8_X, nf_n8_R, nf_n8_G, nf_n8_A, dj_S_Z, dj_S_X, dj_S_R, dj_S_G, dj_Z_S, dj_Z_X, dj_Z_R, dj_Z_G, dj_X_S, dj_X_Z, dj_X_R, dj_X_G, dj_R_S, dj_R_Z, dj_R_X, dj_R_G, dj_G_S, dj_G_Z, dj_G_X, dj_G_R, dj_A_S, dj_A_Z, dj_A_X, dj_A_R, dj_A_G⟩
            ·
              refine w_kp ?_
              refine w_nil ?_
              refine w_cond (evs' gse) (fun hh => nomatch hh) (fun _ => ?_)
              refine w_exit ?_
              refine w_reg ?_
              refine w_mv_int (evs' (gsn rfl f_p16)) ?_
              refine w_add rfl rfl (wr64 (by omega) (by omega)) ?_
              refine w_mv_int rfl ?_
              refine w_kp ?_
              refine w_nil ?_
              exact ⟨kk0 - 1, by omega, i + 1, _, _, _, _, _, _, _, _, _, _, _, _, _, _, _, _, _, _, _, (gsn rfl (gsn rfl f_p1)), (gsn rfl (gsn rfl f_p7)), (gsn rfl (gsn rfl f_p8)), (gsn rfl (gsn rfl f_p10)), (gsn rfl (gsn rfl f_p11)), (gsn rfl (gsn rfl f_p13)), (gsn rfl (gsn rfl f_p14)), (gsn rfl (gsn rfl f_p15)), gse, (by omega), (by omega), (by omega), (by omega), (by omega), (by omega), (by omega), (by omega), (hu), (hlu), (hls), (hR9), (hG9), (hZ9), (by omega), (by omega), (by omega), hb_n3, lt_n3, hb_n4, lt_n4, hb_n7, lt_n7, hb_n8, lt_n8, S, Z, X, R, G, A, nf_n3_S, nf_n3_Z, nf_n3_X, nf_n3_R, nf_n3_G, nf_n3_A, nf_n4_S, nf_n4_Z, nf_n4_X, nf_n4_R, nf_n4_G, nf_n4_A, nf_n7_S, nf_n7_Z, nf_n7_X, nf_n7_R, nf_n7_G, nf_n7_A, nf_n8_S, nf_n8_Z, nf_n8_X, nf_n8_R, nf_n8_G, nf_n8_A, dj_S_Z, dj_S_X, dj_S_R, dj_S_G, dj_Z_S, dj_Z_X, dj_Z_R, dj_Z_G, dj_X_S, dj_X_Z, dj_X_R, dj_X_G, dj_R_S, dj_R_Z, dj_R_X, dj_R_G, dj_G_S, dj_G_Z, dj_G_X, dj_G_R, dj_A_S, dj_A_Z, dj_A_X, dj_A_R, dj_A_G⟩
        ·
          refine w_mv_bool rfl ?_
          refine w_kp ?_
          refine w_nil ?_
          refine w_cond (evs' gse) (fun hh => nomatch hh) (fun _ => ?_)
          refine w_seq ?_
          refine w_reg ?_
          refine w_ieq (evs' (gsn rfl (gsn rfl gse))) rfl (fun c12 => ?_) (fun c12 => ?_)
          ·
            refine w_mv_bool rfl ?_
            refine w_kp ?_
            refine w_nil ?_
            refine w_cond (evs' gse) (fun _ => ?_) (fun hh => nomatch hh)
            refine w_seq ?_
            refine w_reg ?_
            refine w_mv (evs' (gsn rfl (gsn rfl (gsn rfl (gsn rfl (gsn rfl (gsn rfl (gsn rfl (gsn rfl (gsn rfl (gsn rfl (gsn rfl (gsn rfl f_p14))))))))))))) ?_
            refine w_sl_len G rfl ?_
            refine w_gt rfl rfl (fun c13 => ?_) (fun c13 => ?_)
            ·
              refine w_kp ?_
              refine w_nil ?_
              refine w_cond (evs' gse) (fun _ => ?_) (fun hh => nomatch hh)
              refine w_reg ?_
              refine w_mv_ptr (evs' (gsn rfl (gsn rfl (gsn rfl (gsn rfl (gsn rfl (gsn rfl (gsn rfl (gsn rfl (gsn rfl (gsn rfl (gsn rfl (gsn rfl (gsn rfl f_p10)))))))))))))) ?_
              refine w_mv (evs' (gsn rfl (gsn rfl (gsn rfl (gsn rfl (gsn rfl (gsn rfl (gsn rfl (gsn rfl (gsn rfl (gsn rfl (gsn rfl (gsn rfl (gsn rfl f_p14)))))))))))))) ?_
              refine w_fa (evs' (gsn rfl (gsn rfl (gsn rfl (gsn rfl (gsn rfl (gsn rfl (gsn rfl (gsn rfl (gsn rfl (gsn rfl (gsn rfl gse)))))))))))) ?_
              refine w_ld rfl hb_n10 rfl ?_
              refine w_i2i rfl (wr64 (by omega) (by omega)) ?_
              refine w_mv (evs' (gsn rfl (gsn rfl (gsn rfl (gsn rfl (gsn rfl (gsn rfl (gsn rfl (gsn rfl (gsn rfl (gsn rfl (gsn rfl (gsn rfl (gsn rfl f_p14)))))))))))))) ?_
              refine w_sl_len G rfl ?_
              refine w_remp rfl rfl (by omega) (by omega) ?_
              have hq1 := Int.emod_nonneg p9 (b := (xg.length : Int)) (by omega)
              have hq2 := Int.emod_lt_of_pos p9 (b := (xg.length : Int)) (by omega)
              refine w_sl_ix G rfl rfl (by omega) (by omega) (fun s14 o14 cs14 e14 hs14 he14 ht14 hf14 => ?_)
              obtain ⟨s14v, n14w, rfl, hn14w, hs14v⟩ := hG _ (List.mem_of_getElem? he14)
              have hsb : 1 ≤ s14v ∧ s14v ≤ 1000001 := by obtain ⟨ts, tg, q1, q2, q4, q3, _⟩ := hs14v; have e1 := readF_mono (off := 7) (n := na) (s := 0) (t := ts) (by omega) q1; have e2 := readF_mono (off := 7) (n := na) (s := ts) (t := t) (by omega) (by omega); rw [readF_zero] at e1; omega
              refine w_ldn rfl hs14 ht14 ?_
              refine w_mv_int (evs' (gsn rfl (gsn rfl (gsn rfl (gsn rfl (gsn rfl (gsn rfl (gsn rfl (gsn rfl (gsn rfl gse)))))))))) ?_
              refine w_call (take_ok _ _ _ n7 _ _ _ _ _ _ _ _ _ _ _ _ _ hb_n7 S Z nf_n7_S nf_n7_Z dj_S_Z dj_Z_S lt_n7 (fun e he => hu e he) (by omega) hls (by omega) (by omega) (by omega) (fun h15 t15 vl15 F15 le15 hq Sq Zq kp15 hf15 hl15 hm15 => ?_))
              have nf_n3_Z15 : n3 ∉ F15 := fun hh => (hf15 _ hh).elim (fun q => nf_n3_Z q) (fun q => by omega)
              have nf_n4_Z15 : n4 ∉ F15 := fun hh => (hf15 _ hh).elim (fun q => nf_n4_Z q) (fun q => by omega)
              have nf_n7_Z15 : n7 ∉ F15 := fun hh => (hf15 _ hh).elim (fun q => nf_n7_Z q) (fun q => by omega)
              have nf_n8_Z15 : n8 ∉ F15 := fun hh => (hf15 _ hh).elim (fun q => nf_n8_Z q) (fun q => by omega)
              have nf_n10_Z15 : n10 ∉ F15 := fun hh => (hf15 _ hh).elim (fun q => nf_n10_Z q) (fun q => by omega)
              have dj_S_Z15 : ∀ x ∈ _, x ∉ F15 := fun x hx hh => (hf15 _ hh).elim (fun q => dj_S_Z x hx q) (fun q => by have := S.lt x hx; omega)
              have dj_Z15_S := dj_symm dj_S_Z15
              have dj_X_Z15 : ∀ x ∈ _, x ∉ F15 := fun x hx hh => (hf15 _ hh).elim (fun q => dj_X_Z x hx q) (fun q => by have := X.lt x hx; omega)
              have dj_Z15_X := dj_symm dj_X_Z15
              have dj_R_Z15 : ∀ x ∈ _, x ∉ F15 := fun x hx hh => (hf15 _ hh).elim (fun q => dj_R_Z x hx q) (fun q => by have := R.lt x hx; omega)
              have dj_Z15_R := dj_symm dj_R_Z15
              have dj_G_Z15 : ∀ x ∈ _, x ∉ F15 := fun x hx hh => (hf15 _ hh).elim (fun q => dj_G_Z x hx q) (fun q => by have := G.lt x hx; omega)
              have dj_Z15_G := dj_symm dj_G_Z15
              have dj_A_Z15 : ∀ x ∈ _, x ∉ F15 := fun x hx hh => (hf15 _ hh).elim (fun q => dj_A_Z x hx q) (fun q => by have := A.lt x hx; omega)
              have dj_Z15_A := dj_symm dj_A_Z15
              have hs14 := kp15.get hs14 (G.lt _ hf14) ((nF1 nf_n7_G) _ hf14)
              have hb_n3 := kp15.get hb_n3 lt_n3 (ni1 (by omega))
              have hb_n4 := kp15.get hb_n4 lt_n4 (ni1 (by omega))
              have hb_n8 := kp15.get hb_n8 lt_n8 (ni1 (by omega))
              have hb_n10 := kp15.get hb_n10 lt_n10 (ni1 (by omega))
              have X := X.keep kp15 (nF1 nf_n7_X)
              have R := R.keep kp15 (nF1 nf_n7_R)
              have G := G.keep kp15 (nF1 nf_n7_G)
              have A := A.keep kp15 (nF1 nf_n7_A)
              have lt_n3 := kp15.lt lt_n3
              have lt_n4 := kp15.lt lt_n4
              have lt_n7 := kp15.lt lt_n7
              have lt_n8 := kp15.lt lt_n8
              have lt_n10 := kp15.lt lt_n10
              have hb_n7 := hq
              have S := Sq
              have Z15 := Zq
              have hr : rd (readF 7 na (t + g9 % 600)) th = (readF 7 na (t + g9 % 600)) := by unfold rd; omega
              rw [hr] at hb_n7
              have hls : le15.length ≤ 16 := hl15
              have hlf : lenF (1 + lg % 2000) = (1 + lg % 2000) := by unfold lenF; rw [if_neg (by omega)]; omega
              have hmax : max 0 n14w = n14w := by omega
              have hZ : ∀ y ∈ le15, ∃ s, y.2 = s - 1 + holdF (1 + lg % 2000) pp ∧ Given1 na nb pp (1 + lg % 2000) t lx y.1 s := fun y hy => (hm15 y hy).elim (hZ y) (fun q => ⟨s14v, by rw [q.1, hlf], by rw [q.1, hmax]; exact hs14v⟩)
              refine w_nil ?_
              refine w_seq ?_
              refine w_reg ?_
              refine w_mv_int rfl ?_
              refine w_kp ?_
              refine w_nil ?_
              refine w_block ?_
              obtain ⟨kk0, hkk0⟩ : ∃ q, q = kk := ⟨kk, rfl⟩
              have htt : t ≤ (t + g9 % 600) := by omega
              have hR9 : ∀ e ∈ xr, ∃ s, e = [V.int .i64 s] ∧ Asked na (t + g9 % 600) s := fun e he => let ⟨s, a, b⟩ := hR e he; ⟨s, a, b.le htt⟩
              have hG9 : ∀ e ∈ xg, ∃ s n, e = [V.int .i64 s, .int .i64 n, .int .i64 (1 + lg % 2000)] ∧ 0 ≤ n ∧ Given1 na nb pp (1 + lg % 2000) (t + g9 % 600) lx n s := fun e he => let ⟨s, n, a, b, c⟩ := hG e he; ⟨s, n, a, b, (c.le htt)⟩
              have hZ9 : ∀ y ∈ le15, ∃ s, y.2 = s - 1 + holdF (1 + lg % 2000) pp ∧ Given1 na nb pp (1 + lg % 2000) (t + g9 % 600) lx y.1 s := fun y hy => let ⟨s, a, b⟩ := hZ y hy; ⟨s, a, (b.le htt)⟩
              refine w_loop (fun kk fr hh => ∃ (ap : Int) (th2 : Int) (gr2 : Int) (ti2 : Int), fr.get p1 = some (va) ∧ fr.get p7 = some (.ptr n3 0) ∧ fr.get p8 = some (.ptr n4 0) ∧ fr.get p10 = some (.ptr n7 0) ∧ fr.get p11 = some (.ptr n8 0) ∧ fr.get p13 = some (vr) ∧ fr.get p14 = some (vg) ∧ fr.get p15 = some (.int .i64 (t + g9 % 600)) ∧ fr.get p16 = some (.int .i64 i) ∧ fr.get p18 = some (.int .i64 (readF 7 na (t + g9 % 600))) ∧ fr.get p20 = some (.int .i64 (readF 100 nb (t + g9 % 600))) ∧ fr.get p25 = some (.int .i64 ap) ∧ (0 ≤ ap) ∧ (ap + (kk : Int) = 8) ∧ (0 ≤ th2) ∧ (th2 ≤ (readF 7 na (t + g9 % 600))) ∧ (0 ≤ ti2) ∧ (ti2 ≤ (readF 100 nb (t + g9 % 600))) ∧ (hh.get n3 = some (.cells [.int .i64 7, .int .i64 na, .int .i64 1000] false)) ∧ (n3.num < hh.next.num) ∧ (hh.get n4 = some (.cells [.int .i64 100, .int .i64 nb, .int .i64 1000] false)) ∧ (n4.num < hh.next.num) ∧ (hh.get n7 = some (.cells [.int .i64 pp, .int .i64 th2, .int .i64 gr2, vs, vl15] false)) ∧ (n7.num < hh.next.num) ∧ (hh.get n8 = some (.cells [.int .i64 (1 + lg % 2000), .int .i64 pp, .int .i64 ti2, vx] false)) ∧ (n8.num < hh.next.num) ∧ (Sl 1 hh vs FS xs) ∧ (Sl 2 hh vl15 F15 (le15.map le)) ∧ (Sl 3 hh vx FX (lx.map ge)) ∧ (Sl 1 hh vr FR xr) ∧ (Sl 3 hh vg FG xg) ∧ (Ar 4 hh va FA xa) ∧ (n3 ∉ FS) ∧ (n3 ∉ F15) ∧ (n3 ∉ FX) ∧ (n3 ∉ FR) ∧ (n3 ∉ FG) ∧ (n3 ∉ FA) ∧ (n4 ∉ FS) ∧ (n4 ∉ F15) ∧ (n4 ∉ FX) ∧ (n4 ∉ FR) ∧ (n4 ∉ FG) ∧ (n4 ∉ FA) ∧ (n7 ∉ FS) ∧ (n7 ∉ F15) ∧ (n7 ∉ FX) ∧ (n7 ∉ FR) ∧ (n7 ∉ FG) ∧ (n7 ∉ FA) ∧ (n8 ∉ FS) ∧ (n8 ∉ F15) ∧ (n8 ∉ FX) ∧ (n8 ∉ FR) ∧ (n8 ∉ FG) ∧ (n8 ∉ FA) ∧ (∀ x ∈ FS, x ∉ F15) ∧ (∀ x ∈ FS, x ∉ FX) ∧ (∀ x ∈ FS, x ∉ FR) ∧ (∀ x ∈ FS, x ∉ FG) ∧ (∀ x ∈ F15, x ∉ FS) ∧ (∀ x ∈ F15, x ∉ FX) ∧ (∀ x ∈ F15, x ∉ FR) ∧ (∀ x ∈ F15, x ∉ FG) ∧ (∀ x ∈ FX, x ∉ FS) ∧ (∀ x ∈ FX, x ∉ F15) ∧ (∀ x ∈ FX, x ∉ FR) ∧ (∀ x ∈ FX, x ∉ FG) ∧ (∀ x ∈ FR, x ∉ FS) ∧ (∀ x ∈ FR, x ∉ F15) ∧ (∀ x ∈ FR, x ∉ FX) ∧ (∀ x ∈ FR, x ∉ FG) ∧ (∀ x ∈ FG, x ∉ FS) ∧ (∀ x ∈ FG, x ∉ F15) ∧ (∀ x ∈ FG, x ∉ FX) ∧ (∀ x ∈ FG, x ∉ FR) ∧ (∀ x ∈ FA, x ∉ FS) ∧ (∀ x ∈ FA, x ∉ F15) ∧ (∀ x ∈ FA, x ∉ FX) ∧ (∀ x ∈ FA, x ∉ FR) ∧ (∀ x ∈ FA, x ∉ FG)) (k := 8) (by omega) ⟨0, _, _, _, (gsn rfl (gsn rfl (gsn rfl (gsn rfl (gsn rfl (gsn rfl (gsn rfl (gsn rfl (gsn rfl (gsn rfl (gsn rfl (gsn rfl (gsn rfl (gsn rfl f_p1)))))))))))))), (gsn rfl (gsn rfl (gsn rfl (gsn rfl (gsn rfl (gsn rfl (gsn rfl (gsn rfl (gsn rfl (gsn rfl (gsn rfl (gsn rfl (gsn rfl (gsn rfl f_p7)))))))))))))), (gsn rfl (gsn rfl (gsn rfl (gsn rfl (gsn rfl (gsn rfl (gsn rfl (gsn rfl (gsn rfl (gsn rfl (gsn rfl (gsn rfl (gsn rfl (gsn rfl f_p8)))))))))))))), (gsn rfl (gsn rfl (gsn rfl (gsn rfl (gsn rfl (gsn rfl (gsn rfl (gsn rfl (gsn rfl (gsn rfl (gsn rfl (gsn rfl (gsn rfl (gsn rfl f_p10)))))))))))))), (gsn rfl (gsn rfl (gsn rfl (gsn rfl (gsn rfl (gsn rfl (gsn rfl (gsn rfl (gsn rfl (gsn rfl (gsn rfl (gsn rfl (gsn rfl (gsn rfl f_p11)))))))))))))), (gsn rfl (gsn rfl (gsn rfl (gsn rfl (gsn rfl (gsn rfl (gsn rfl (gsn rfl (gsn rfl (gsn rfl (gsn rfl (gsn rfl (gsn rfl (gsn rfl f_p13)))))))))))))), (gsn rfl (gsn rfl (gsn rfl (gsn rfl (gsn rfl (gsn rfl (gsn rfl (gsn rfl (gsn rfl (gsn rfl (gsn rfl (gsn rfl (gsn rfl (gsn rfl f_p14)))))))))))))), (gsn rfl (gsn rfl (gsn rfl (gsn rfl (gsn rfl (gsn rfl (gsn rfl (gsn rfl (gsn rfl (gsn rfl (gsn rfl gse))))))))))), (gsn rfl (gsn rfl (gsn rfl (gsn rfl (gsn rfl (gsn rfl (gsn rfl (gsn rfl (gsn rfl (gsn rfl (gsn rfl (gsn rfl (gsn rfl (gsn rfl f_p16)))))))))))))), (gsn rfl (gsn rfl (gsn rfl (gsn rfl (gsn rfl (gsn rfl (gsn rfl (gsn rfl (gsn rfl (gsn rfl gse)))))))))), (gsn rfl (gsn rfl (gsn rfl (gsn rfl (gsn rfl (gsn rfl (gsn rfl (gsn rfl gse)))))))), gse, (by omega), (by omega), (by omega), (by omega), (by omega), (by omega), hb_n3, lt_n3, hb_n4, lt_n4, hb_n7, lt_n7, hb_n8, lt_n8, S, Z15, X, R, G, A, nf_n3_S, nf_n3_Z15, nf_n3_X, nf_n3_R, nf_n3_G, nf_n3_A, nf_n4_S, nf_n4_Z15, nf_n4_X, nf_n4_R, nf_n4_G, nf_n4_A, nf_n7_S, nf_n7_Z15, nf_n7_X, nf_n7_R, nf_n7_G, nf_n7_A, nf_n8_S, nf_n8_Z15, nf_n8_X, nf_n8_R, nf_n8_G, nf_n8_A, dj_S_Z15, dj_S_X, dj_S_R, dj_S_G, dj_Z15_S, dj_Z15_X, dj_Z15_R, dj_Z15_G, dj_X_S, dj_X_Z15, dj_X_R, dj_X_G, dj_R_S, dj_R_Z15, dj_R_X, dj_R_G, dj_G_S, dj_G_Z15, dj_G_X, dj_G_R, dj_A_S, dj_A_Z15, dj_A_X, dj_A_R, dj_A_G⟩ ?_
              refine fun kk fr hh => ex_i fun ap => ex_i fun th2 => ex_i fun gr2 => ex_i fun ti2 => and_i fun f_p1 => and_i fun f_p7 => and_i fun f_p8 => and_i fun f_p10 => and_i fun f_p11 => and_i fun f_p13 => and_i fun f_p14 => and_i fun f_p15 => and_i fun f_p16 => and_i fun f_p18 => and_i fun f_p20 => and_i fun f_p25 => and_i fun hap0 => and_i fun hap1 => and_i fun hth2 => and_i fun hth3 => and_i fun hti2 => and_i fun hti3 => and_i fun hb_n3 => and_i fun lt_n3 => and_i fun hb_n4 => and_i fun lt_n4 => and_i fun hb_n7 => and_i fun lt_n7 => and_i fun hb_n8 => and_i fun lt_n8 => and_i fun S => and_i fun Z15 => and_i fun X => and_i fun R => and_i fun G => and_i fun A => and_i fun nf_n3_S => and_i fun nf_n3_Z15 => and_i fun nf_n3_X => and_i fun nf_n3_R => and_i fun nf_n3_G => and_i fun nf_n3_A => and_i fun nf_n4_S => and_i fun nf_n4_Z15 => and_i fun nf_n4_X => and_i fun nf_n4_R => and_i fun nf_n4_G => and_i fun nf_n4_A => and_i fun nf_n7_S => and_i fun nf_n7_Z15 => and_i fun nf_n7_X => and_i fun nf_n7_R => and_i fun nf_n7_G => and_i fun nf_n7_A => and_i fun nf_n8_S => and_i fun nf_n8_Z15 => and_i fun nf_n8_X => and_i fun nf_n8_R => and_i fun nf_n8_G => and_i fun nf_n8_A => and_i fun dj_S_Z15 => and_i fun dj_S_X => and_i fun dj_S_R => and_i fun dj_S_G => and_i fun dj_Z15_S => and_i fun dj_Z15_X => and_i fun dj_Z15_R => and_i fun dj_Z15_G => and_i fun dj_X_S => and_i fun dj_X_Z15 => and_i fun dj_X_R => and_i fun dj_X_G => and_i fun dj_R_S => and_i fun dj_R_Z15 => and_i fun dj_R_X => and_i fun dj_R_G => and_i fun dj_G_S => and_i fun dj_G_Z15 => and_i fun dj_G_X => and_i fun dj_G_R => and_i fun dj_A_S => and_i fun dj_A_Z15 => and_i fun dj_A_X => and_i fun dj_A_R => fun dj_A_G => ?_
              refine w_seq ?_
              refine w_seq ?_
              refine w_reg ?_
              refine w_mv_int (evs' f_p25) ?_
              refine w_lt rfl rfl (fun c14 => ?_) (fun c14 => ?_)
              ·
                refine w_kp ?_
                refine w_nil ?_
                refine w_cond (evs' gse) (fun _ => ?_) (fun hh => nomatch hh)
                refine w_skip ?_
                refine w_seq ?_
                refine w_block ?_
                refine w_seq ?_
                refine w_reg ?_
                refine w_mv_ptr (evs' (gsn rfl f_p10)) ?_
                refine w_mv_int (evs' (gsn rfl f_p18)) ?_
                refine w_mv_int (evs' (gsn rfl f_p25)) ?_
                refine w_call (holds_ok _ _ _ n7 _ _ _ _ _ _ _ _ _ hb_n7 Z15 nf_n7_Z15 lt_n7 (by omega) (by omega) (fun h16 t16 ho16 hq Sq kp16 => ?_))
                have hb_n3 := kp16.get hb_n3 lt_n3 (ni1 (by omega))
                have hb_n4 := kp16.get hb_n4 lt_n4 (ni1 (by omega))
                have hb_n8 := kp16.get hb_n8 lt_n8 (ni1 (by omega))
                have S := S.keep kp16 (nF1 nf_n7_S)
                have X := X.keep kp16 (nF1 nf_n7_X)
                have R := R.keep kp16 (nF1 nf_n7_R)
                have G := G.keep kp16 (nF1 nf_n7_G)
                have A := A.keep kp16 (nF1 nf_n7_A)
                have lt_n3 := kp16.lt lt_n3
                have lt_n4 := kp16.lt lt_n4
                have lt_n7 := kp16.lt lt_n7
                have lt_n8 := kp16.lt lt_n8
                have hr : rd (readF 7 na (t + g9 % 600)) th2 = (readF 7 na (t + g9 % 600)) := by unfold rd; omega
                have hmx : max ap 0 = ap := by omega
                rw [hr] at hq ho16
                rw [hmx] at ho16
                have hb_n7 := hq
                have Z15 := Sq
                cases t16
                ·
                  refine w_mv_bool rfl ?_
                  refine w_gop rfl (fun hh => nomatch hh) (fun _ => ?_)
                  refine w_gop rfl (fun hh => nomatch hh) (fun _ => ?_)
                  refine w_gop rfl (fun hh => nomatch hh) (fun _ => ?_)
                  refine w_gop rfl (fun hh => nomatch hh) (fun _ => ?_)
                  refine w_gcall rfl (fun hh => nomatch hh) (fun _ => ?_)
                  refine w_pick rfl (fun hh => nomatch hh) (fun _ => ?_)
                  refine w_mv_bool rfl ?_
                  refine w_kp ?_
                  refine w_nil ?_
                  refine w_cond (evs' gse) (fun hh => nomatch hh) (fun _ => ?_)
                  refine w_skip ?_
                  refine w_reg ?_
                  refine w_mv_int (evs' (gsn rfl (gsn rfl f_p25))) ?_
                  refine w_add rfl rfl (wr64 (by omega) (by omega)) ?_
                  refine w_mv_int rfl ?_
                  refine w_kp ?_
                  refine w_nil ?_
                  exact ⟨kk - 1, by omega, ap + 1, _, _, _, (gsn rfl (gsn rfl (gsn rfl f_p1))), (gsn rfl (gsn rfl (gsn rfl f_p7))), (gsn rfl (gsn rfl (gsn rfl f_p8))), (gsn rfl (gsn rfl (gsn rfl f_p10))), (gsn rfl (gsn rfl (gsn rfl f_p11))), (gsn rfl (gsn rfl (gsn rfl f_p13))), (gsn rfl (gsn rfl (gsn rfl f_p14))), (gsn rfl (gsn rfl (gsn rfl f_p15))), (gsn rfl (gsn rfl (gsn rfl f_p16))), (gsn rfl (gsn rfl (gsn rfl f_p18))), (gsn rfl (gsn rfl (gsn rfl f_p20))), gse, (by omega), (by omega), (by omega), (by omega), (by omega), (by omega), hb_n3, lt_n3, hb_n4, lt_n4, hb_n7, lt_n7, hb_n8, lt_n8, S, Z15, X, R, G, A, nf_n3_S, nf_n3_Z15, nf_n3_X, nf_n3_R, nf_n3_G, nf_n3_A, nf_n4_S, nf_n4_Z15, nf_n4_X, nf_n4_R, nf_n4_G, nf_n4_A, nf_n7_S, nf_n7_Z15, nf_n7_X, nf_n7_R, nf_n7_G, nf_n7_A, nf_n8_S, nf_n8_Z15, nf_n8_X, nf_n8_R, nf_n8_G, nf_n8_A, dj_S_Z15, dj_S_X, dj_S_R, dj_S_G, dj_Z15_S, dj_Z15_X, dj_Z15_R, dj_Z15_G, dj_X_S, dj_X_Z15, dj_X_R, dj_X_G, dj_R_S, dj_R_Z15, dj_R_X, dj_R_G, dj_G_S, dj_G_Z15, dj_G_X, dj_G_R, dj_A_S, dj_A_Z15, dj_A_X, dj_A_R, dj_A_G⟩
                ·
                  have ho16 := of_decide_eq_true ho16.symm
                  refine w_mv_bool rfl ?_
                  refine w_gop rfl (fun _ => ?_) (fun hh => nomatch hh)
                  refine w_mv_ptr (evs' (gsn rfl f_p11)) ?_
                  refine w_gop rfl (fun _ => ?_) (fun hh => nomatch hh)
                  refine w_mv_int (evs' (gsn rfl f_p25)) ?_
                  refine w_gop rfl (fun _ => ?_) (fun hh => nomatch hh)
                  refine w_add rfl rfl (wr64 (by omega) (by omega)) ?_
                  refine w_gop rfl (fun _ => ?_) (fun hh => nomatch hh)
                  refine w_mv_int (evs' (gsn rfl f_p20)) ?_
                  refine w_gcall rfl (fun _ => ?_) (fun hh => nomatch hh)
                  refine w_call (free_ok _ _ _ n8 _ _ _ _ _ _ _ _ _ hb_n8 X nf_n8_X lt_n8 (by omega) (by omega) (fun h17 hfr17 hq Sq kp17 => ?_) (fun h17 hfr17 hq Sq kp17 => ?_))
                  ·
                    have hr : rd (readF 100 nb (t + g9 % 600)) ti2 = (readF 100 nb (t + g9 % 600)) := by unfold rd; omega
                    rw [hr] at hfr17
                    obtain ⟨y, hy, hbl⟩ := safe_law hp0 hp1 hna0 hnb1 (by omega) (by omega) (by omega) hZ9 ho16
                    exact absurd hbl (hfr17 y hy)
                  ·
                    have hb_n3 := kp17.get hb_n3 lt_n3 (ni1 (by omega))
                    have hb_n4 := kp17.get hb_n4 lt_n4 (ni1 (by omega))
                    have hb_n7 := kp17.get hb_n7 lt_n7 (ni1 (by omega))
                    have S := S.keep kp17 (nF1 nf_n8_S)
                    have Z15 := Z15.keep kp17 (nF1 nf_n8_Z15)
                    have R := R.keep kp17 (nF1 nf_n8_R)
                    have G := G.keep kp17 (nF1 nf_n8_G)
                    have A := A.keep kp17 (nF1 nf_n8_A)
                    have lt_n3 := kp17.lt lt_n3
                    have lt_n4 := kp17.lt lt_n4
                    have lt_n7 := kp17.lt lt_n7
                    have lt_n8 := kp17.lt lt_n8
                    have hr : rd (readF 100 nb (t + g9 % 600)) ti2 = (readF 100 nb (t + g9 % 600)) := by unfold rd; omega
                    rw [hr] at hq
                    have hb_n8 := hq
                    have X := Sq
                    refine w_pick rfl (fun _ => ?_) (fun hh => nomatch hh)
                    refine w_mv_bool rfl ?_
                    refine w_kp ?_
                    refine w_nil ?_
                    refine w_cond (evs' gse) (fun hh => nomatch hh) (fun _ => ?_)
                    refine w_skip ?_
                    refine w_reg ?_
                    refine w_mv_int (evs' (gsn rfl (gsn rfl f_p25))) ?_
                    refine w_add rfl rfl (wr64 (by omega) (by omega)) ?_
                    refine w_mv_int rfl ?_
                    refine w_kp ?_
                    refine w_nil ?_
                    exact ⟨kk - 1, by omega, ap + 1, _, _, _, (gsn rfl (gsn rfl (gsn rfl f_p1))), (gsn rfl (gsn rfl (gsn rfl f_p7))), (gsn rfl (gsn rfl (gsn rfl f_p8))), (gsn rfl (gsn rfl (gsn rfl f_p10))), (gsn rfl (gsn rfl (gsn rfl f_p11))), (gsn rfl (gsn rfl (gsn rfl f_p13))), (gsn rfl (gsn rfl (gsn rfl f_p14))), (gsn rfl (gsn rfl (gsn rfl f_p15))), (gsn rfl (gsn rfl (gsn rfl f_p16))), (gsn rfl (gsn rfl (gsn rfl f_p18))), (gsn rfl (gsn rfl (gsn rfl f_p20))), gse, (by omega), (by omega), (by omega), (by omega), (by omega), (by omega), hb_n3, lt_n3, hb_n4, lt_n4, hb_n7, lt_n7, hb_n8, lt_n8, S, Z15, X, R, G, A, nf_n3_S, nf_n3_Z15, nf_n3_X, nf_n3_R, nf_n3_G, nf_n3_A, nf_n4_S, nf_n4_Z15, nf_n4_X, nf_n4_R, nf_n4_G, nf_n4_A, nf_n7_S, nf_n7_Z15, nf_n7_X, nf_n7_R, nf_n7_G, nf_n7_A, nf_n8_S, nf_n8_Z15, nf_n8_X, nf_n8_R, nf_n8_G, nf_n8_A, dj_S_Z15, dj_S_X, dj_S_R, dj_S_G, dj_Z15_S, dj_Z15_X, dj_Z15_R, dj_Z15_G, dj_X_S, dj_X_Z15, dj_X_R, dj_X_G, dj_R_S, dj_R_Z15, dj_R_X, dj_R_G, dj_G_S, dj_G_Z15, dj_G_X, dj_G_R, dj_A_S, dj_A_Z15, dj_A_X, dj_A_R, dj_A_G⟩
              ·
                refine w_kp ?_
                refine w_nil ?_
                refine w_cond (evs' gse) (fun hh => nomatch hh) (fun _ => ?_)
                refine w_exit ?_
                refine w_reg ?_
                refine w_mv_int (evs' (gsn rfl f_p16)) ?_
                refine w_add rfl rfl (wr64 (by omega) (by omega)) ?_
                refine w_mv_int rfl ?_
                refine w_kp ?_
                refine w_nil ?_
                exact ⟨kk0 - 1, by omega, i + 1, _, _, _, _, _, _, _, _, _, _, _, _, _, _, _, _, _, _, _, (gsn rfl (gsn rfl f_p1)), (gsn rfl (gsn rfl f_p7)), (gsn rfl (gsn rfl f_p8)), (gsn rfl (gsn rfl f_p10)), (gsn rfl (gsn rfl f_p11)), (gsn rfl (gsn rfl f_p13)), (gsn rfl (gsn rfl f_p14)), (gsn rfl (gsn rfl f_p15)), gse, (by omega), (by omega), (by omega), (by omega), (by omega), (by omega), (by omega), (by omega), (hu), (hlu), (hls), (hR9), (hG9), (hZ9), (by omega), (by omega), (by omega), hb_n3, lt_n3, hb_n4, lt_n4, hb_n7, lt_n7, hb_n8, lt_n8, S, Z15, X, R, G, A, nf_n3_S, nf_n3_Z15, nf_n3_X, nf_n3_R, nf_n3_G, nf_n3_A, nf_n4_S, nf_n4_Z15, nf_n4_X, nf_n4_R, nf_n4_G, nf_n4_A, nf_n7_S, nf_n7_Z15, nf_n7_X, nf_n7_R, nf_n7_G, nf_n7_A, nf_n8_S, nf_n8_Z15, nf_n8_X, nf_n8_R, nf_n8_G, nf_n8_A, dj_S_Z15, dj_S_X, dj_S_R, dj_S_G, dj_Z15_S, dj_Z15_X, dj_Z15_R, dj_Z15_G, dj_X_S, dj_X_Z15, dj_X_R, dj_X_G, dj_R_S, dj_R_Z15, dj_R_X, dj_R_G, dj_G_S, dj_G_Z15, dj_G_X, dj_G_R, dj_A_S, dj_A_Z15, dj_A_X, dj_A_R, dj_A_G⟩
            ·
              refine w_kp ?_
              refine w_nil ?_
              refine w_cond (evs' gse) (fun hh => nomatch hh) (fun _ => ?_)
              refine w_skip ?_
              refine w_seq ?_
              refine w_reg ?_
              refine w_mv_int rfl ?_
              refine w_kp ?_
              refine w_nil ?_
              refine w_block ?_
              obtain ⟨kk0, hkk0⟩ : ∃ q, q = kk := ⟨kk, rfl⟩
              have htt : t ≤ (t + g9 % 600) := by omega
              have hR9 : ∀ e ∈ xr, ∃ s, e = [V.int .i64 s] ∧ Asked na (t + g9 % 600) s := fun e he => let ⟨s, a, b⟩ := hR e he; ⟨s, a, b.le htt⟩
              have hG9 : ∀ e ∈ xg, ∃ s n, e = [V.int .i64 s, .int .i64 n, .int .i64 (1 + lg % 2000)] ∧ 0 ≤ n ∧ Given1 na nb pp (1 + lg % 2000) (t + g9 % 600) lx n s := fun e he => let ⟨s, n, a, b, c⟩ := hG e he; ⟨s, n, a, b, (c.le htt)⟩
              have hZ9 : ∀ y ∈ lea, ∃ s, y.2 = s - 1 + holdF (1 + lg % 2000) pp ∧ Given1 na nb pp (1 + lg % 2000) (t + g9 % 600) lx y.1 s := fun y hy => let ⟨s, a, b⟩ := hZ y hy; ⟨s, a, (b.le htt)⟩
              refine w_loop (fun kk fr hh => ∃ (ap : Int) (th2 : Int) (gr2 : Int) (ti2 : Int), fr.get p1 = some (va) ∧ fr.get p7 = some (.ptr n3 0) ∧ fr.get p8 = some (.ptr n4 0) ∧ fr.get p10 = some (.ptr n7 0) ∧ fr.get p11 = some (.ptr n8 0) ∧ fr.get p13 = some (vr) ∧ fr.get p14 = some (vg) ∧ fr.get p15 = some (.int .i64 (t + g9 % 600)) ∧ fr.get p16 = some (.int .i64 i) ∧ fr.get p18 = some (.int .i64 (readF 7 na (t + g9 % 600))) ∧ fr.get p20 = some (.int .i64 (readF 100 nb (t + g9 % 600))) ∧ fr.get p25 = some (.int .i64 ap) ∧ (0 ≤ ap) ∧ (ap + (kk : Int) = 8) ∧ (0 ≤ th2) ∧ (th2 ≤ (readF 7 na (t + g9 % 600))) ∧ (0 ≤ ti2) ∧ (ti2 ≤ (readF 100 nb (t + g9 % 600))) ∧ (hh.get n3 = some (.cells [.int .i64 7, .int .i64 na, .int .i64 1000] false)) ∧ (n3.num < hh.next.num) ∧ (hh.get n4 = some (.cells [.int .i64 100, .int .i64 nb, .int .i64 1000] false)) ∧ (n4.num < hh.next.num) ∧ (hh.get n7 = some (.cells [.int .i64 pp, .int .i64 th2, .int .i64 gr2, vs, vl] false)) ∧ (n7.num < hh.next.num) ∧ (hh.get n8 = some (.cells [.int .i64 (1 + lg % 2000), .int .i64 pp, .int .i64 ti2, vx] false)) ∧ (n8.num < hh.next.num) ∧ (Sl 1 hh vs FS xs) ∧ (Sl 2 hh vl FZ (lea.map le)) ∧ (Sl 3 hh vx FX (lx.map ge)) ∧ (Sl 1 hh vr FR xr) ∧ (Sl 3 hh vg FG xg) ∧ (Ar 4 hh va FA xa) ∧ (n3 ∉ FS) ∧ (n3 ∉ FZ) ∧ (n3 ∉ FX) ∧ (n3 ∉ FR) ∧ (n3 ∉ FG) ∧ (n3 ∉ FA) ∧ (n4 ∉ FS) ∧ (n4 ∉ FZ) ∧ (n4 ∉ FX) ∧ (n4 ∉ FR) ∧ (n4 ∉ FG) ∧ (n4 ∉ FA) ∧ (n7 ∉ FS) ∧ (n7 ∉ FZ) ∧ (n7 ∉ FX) ∧ (n7 ∉ FR) ∧ (n7 ∉ FG) ∧ (n7 ∉ FA) ∧ (n8 ∉ FS) ∧ (n8 ∉ FZ) ∧ (n8 ∉ FX) ∧ (n8 ∉ FR) ∧ (n8 ∉ FG) ∧ (n8 ∉ FA) ∧ (∀ x ∈ FS, x ∉ FZ) ∧ (∀ x ∈ FS, x ∉ FX) ∧ (∀ x ∈ FS, x ∉ FR) ∧ (∀ x ∈ FS, x ∉ FG) ∧ (∀ x ∈ FZ, x ∉ FS) ∧ (∀ x ∈ FZ, x ∉ FX) ∧ (∀ x ∈ FZ, x ∉ FR) ∧ (∀ x ∈ FZ, x ∉ FG) ∧ (∀ x ∈ FX, x ∉ FS) ∧ (∀ x ∈ FX, x ∉ FZ) ∧ (∀ x ∈ FX, x ∉ FR) ∧ (∀ x ∈ FX, x ∉ FG) ∧ (∀ x ∈ FR, x ∉ FS) ∧ (∀ x ∈ FR, x ∉ FZ) ∧ (∀ x ∈ FR, x ∉ FX) ∧ (∀ x ∈ FR, x ∉ FG) ∧ (∀ x ∈ FG, x ∉ FS) ∧ (∀ x ∈ FG, x ∉ FZ) ∧ (∀ x ∈ FG, x ∉ FX) ∧ (∀ x ∈ FG, x ∉ FR) ∧ (∀ x ∈ FA, x ∉ FS) ∧ (∀ x ∈ FA, x ∉ FZ) ∧ (∀ x ∈ FA, x ∉ FX) ∧ (∀ x ∈ FA, x ∉ FR) ∧ (∀ x ∈ FA, x ∉ FG)) (k := 8) (by omega) ⟨0, _, _, _, (gsn rfl (gsn rfl (gsn rfl (gsn rfl (gsn rfl (gsn rfl (gsn rfl (gsn rfl (gsn rfl (gsn rfl (gsn rfl (gsn rfl (gsn rfl (gsn rfl f_p1)))))))))))))), (gsn rfl (gsn rfl (gsn rfl (gsn rfl (gsn rfl (gsn rfl (gsn rfl (gsn rfl (gsn rfl (gsn rfl (gsn rfl (gsn rfl (gsn rfl (gsn rfl f_p7)))))))))))))), (gsn rfl (gsn rfl (gsn rfl (gsn rfl (gsn rfl (gsn rfl (gsn rfl (gsn rfl (gsn rfl (gsn rfl (gsn rfl (gsn rfl (gsn rfl (gsn rfl f_p8)))))))))))))), (gsn rfl (gsn rfl (gsn rfl (gsn rfl (gsn rfl (gsn rfl (gsn rfl (gsn rfl (gsn rfl (gsn rfl (gsn rfl (gsn rfl (gsn rfl (gsn rfl f_p10)))))))))))))), (gsn rfl (gsn rfl (gsn rfl (gsn rfl (gsn rfl (gsn rfl (gsn rfl (gsn rfl (gsn rfl (gsn rfl (gsn rfl (gsn rfl (gsn rfl (gsn rfl f_p11)))))))))))))), (gsn rfl (gsn rfl (gsn rfl (gsn rfl (gsn rfl (gsn rfl (gsn rfl (gsn rfl (gsn rfl (gsn rfl (gsn rfl (gsn rfl (gsn rfl (gsn rfl f_p13)))))))))))))), (gsn rfl (gsn rfl (gsn rfl (gsn rfl (gsn rfl (gsn rfl (gsn rfl (gsn rfl (gsn rfl (gsn rfl (gsn rfl (gsn rfl (gsn rfl (gsn rfl f_p14)))))))))))))), (gsn rfl (gsn rfl (gsn rfl (gsn rfl (gsn rfl (gsn rfl (gsn rfl (gsn rfl (gsn rfl (gsn rfl (gsn rfl gse))))))))))), (gsn rfl (gsn rfl (gsn rfl (gsn rfl (gsn rfl (gsn rfl (gsn rfl (gsn rfl (gsn rfl (gsn rfl (gsn rfl (gsn rfl (gsn rfl (gsn rfl f_p16)))))))))))))), (gsn rfl (gsn rfl (gsn rfl (gsn rfl (gsn rfl (gsn rfl (gsn rfl (gsn rfl (gsn rfl (gsn rfl gse)))))))))), (gsn rfl (gsn rfl (gsn rfl (gsn rfl (gsn rfl (gsn rfl (gsn rfl (gsn rfl gse)))))))), gse, (by omega), (by omega), (by omega), (by omega), (by omega), (by omega), hb_n3, lt_n3, hb_n4, lt_n4, hb_n7, lt_n7, hb_n8, lt_n8, S, Z, X, R, G, A, nf_n3_S, nf_n3_Z, nf_n3_X, nf_n3_R, nf_n3_G, nf_n3_A, nf_n4_S, nf_n4_Z, nf_n4_X, nf_n4_R, nf_n4_G, nf_n4_A, nf_n7_S, nf_n7_Z, nf_n7_X, nf_n7_R, nf_n7_G, nf_n7_A, nf_n8_S, nf_n8_Z, nf_n8_X, nf_n8_R, nf_n8_G, nf_n8_A, dj_S_Z, dj_S_X, dj_S_R, dj_S_G, dj_Z_S, dj_Z_X, dj_Z_R, dj_Z_G, dj_X_S, dj_X_Z, dj_X_R, dj_X_G, dj_R_S, dj_R_Z, dj_R_X, dj_R_G, dj_G_S, dj_G_Z, dj_G_X, dj_G_R, dj_A_S, dj_A_Z, dj_A_X, dj_A_R, dj_A_G⟩ ?_
              refine fun kk fr hh => ex_i fun ap => ex_i fun th2 => ex_i fun gr2 => ex_i fun ti2 => and_i fun f_p1 => and_i fun f_p7 => and_i fun f_p8 => and_i fun f_p10 => and_i fun f_p11 => and_i fun f_p13 => and_i fun f_p14 => and_i fun f_p15 => and_i fun f_p16 => and_i fun f_p18 => and_i fun f_p20 => and_i fun f_p25 => and_i fun hap0 => and_i fun hap1 => and_i fun hth2 => and_i fun hth3 => and_i fun hti2 => and_i fun hti3 => and_i fun hb_n3 => and_i fun lt_n3 => and_i fun hb_n4 => and_i fun lt_n4 => and_i fun hb_n7 => and_i fun lt_n7 => and_i fun hb_n8 => and_i fun lt_n8 => and_i fun S => and_i fun Z => and_i fun X => and_i fun R => and_i fun G => and_i fun A => and_i fun nf_n3_S => and_i fun nf_n3_Z => and_i fun nf_n3_X => and_i fun nf_n3_R => and_i fun nf_n3_G => and_i fun nf_n3_A => and_i fun nf_n4_S => and_i fun nf_n4_Z => and_i fun nf_n4_X => and_i fun nf_n4_R => and_i fun nf_n4_G => and_i fun nf_n4_A => and_i fun nf_n7_S => and_i fun nf_n7_Z => and_i fun nf_n7_X => and_i fun nf_n7_R => and_i fun nf_n7_G => and_i fun nf_n7_A => and_i fun nf_n8_S => and_i fun nf_n8_Z => and_i fun nf_n8_X => and_i fun nf_n8_R => and_i fun nf_n8_G => and_i fun nf_n8_A => and_i fun dj_S_Z => and_i fun dj_S_X => and_i fun dj_S_R => and_i fun dj_S_G => and_i fun dj_Z_S => and_i fun dj_Z_X => and_i fun dj_Z_R => and_i fun dj_Z_G => and_i fun dj_X_S => and_i fun dj_X_Z => and_i fun dj_X_R => and_i fun dj_X_G => and_i fun dj_R_S => and_i fun dj_R_Z => and_i fun dj_R_X => and_i fun dj_R_G => and_i fun dj_G_S => and_i fun dj_G_Z => and_i fun dj_G_X => and_i fun dj_G_R => and_i fun dj_A_S => and_i fun dj_A_Z => and_i fun dj_A_X => and_i fun dj_A_R => fun dj_A_G => ?_
              refine w_seq ?_
              refine w_seq ?_
              refine w_reg ?_
              refine w_mv_int (evs' f_p25) ?_
              refine w_lt rfl rfl (fun c15 => ?_) (fun c15 => ?_)
              ·
                refine w_kp ?_
                refine w_nil ?_
                refine w_cond (evs' gse) (fun _ => ?_) (fun hh => nomatch hh)
                refine w_skip ?_
                refine w_seq ?_
                refine w_block ?_
                refine w_seq ?_
                refine w_reg ?_
                refine w_mv_ptr (evs' (gsn rfl f_p10)) ?_
                refine w_mv_int (evs' (gsn rfl f_p18)) ?_
                refine w_mv_int (evs' (gsn rfl f_p25)) ?_
                refine w_call (holds_ok _ _ _ n7 _ _ _ _ _ _ _ _ _ hb_n7 Z nf_n7_Z lt_n7 (by omega) (by omega) (fun h14 t14 ho14 hq Sq kp14 => ?_))
                have hb_n3 := kp14.get hb_n3 lt_n3 (ni1 (by omega))
                have hb_n4 := kp14.get hb_n4 lt_n4 (ni1 (by omega))
                have hb_n8 := kp14.get hb_n8 lt_n8 (ni1 (by omega))
                have S := S.keep kp14 (nF1 nf_n7_S)
                have X := X.keep kp14 (nF1 nf_n7_X)
                have R := R.keep kp14 (nF1 nf_n7_R)
                have G := G.keep kp14 (nF1 nf_n7_G)
                have A := A.keep kp14 (nF1 nf_n7_A)
                have lt_n3 := kp14.lt lt_n3
                have lt_n4 := kp14.lt lt_n4
                have lt_n7 := kp14.lt lt_n7
                have lt_n8 := kp14.lt lt_n8
                have hr : rd (readF 7 na (t + g9 % 600)) th2 = (readF 7 na (t + g9 % 600)) := by unfold rd; omega
                have hmx : max ap 0 = ap := by omega
                rw [hr] at hq ho14
                rw [hmx] at ho14
                have hb_n7 := hq
                have Z := Sq
                cases t14
                ·
                  refine w_mv_bool rfl ?_
                  refine w_gop rfl (fun hh => nomatch hh) (fun _ => ?_)
                  refine w_gop rfl (fun hh => nomatch hh) (fun _ => ?_)
                  refine w_gop rfl (fun hh => nomatch hh) (fun _ => ?_)
                  refine w_gop rfl (fun hh => nomatch hh) (fun _ => ?_)
                  refine w_gcall rfl (fun hh => nomatch hh) (fun _ => ?_)
                  refine w_pick rfl (fun hh => nomatch hh) (fun _ => ?_)
                  refine w_mv_bool rfl ?_
                  refine w_kp ?_
                  refine w_nil ?_
                  refine w_cond (evs' gse) (fun hh => nomatch hh) (fun _ => ?_)
                  refine w_skip ?_
                  refine w_reg ?_
                  refine w_mv_int (evs' (gsn rfl (gsn rfl f_p25))) ?_
                  refine w_add rfl rfl (wr64 (by omega) (by omega)) ?_
                  refine w_mv_int rfl ?_
                  refine w_kp ?_
                  refine w_nil ?_
                  exact ⟨kk - 1, by omega, ap + 1, _, _, _, (gsn rfl (gsn rfl (gsn rfl f_p1))), (gsn rfl (gsn rfl (gsn rfl f_p7))), (gsn rfl (gsn rfl (gsn rfl f_p8))), (gsn rfl (gsn rfl (gsn rfl f_p10))), (gsn rfl (gsn rfl (gsn rfl f_p11))), (gsn rfl (gsn rfl (gsn rfl f_p13))), (gsn rfl (gsn rfl (gsn rfl f_p14))), (gsn rfl (gsn rfl (gsn rfl f_p15))), (gsn rfl (gsn rfl (gsn rfl f_p16))), (gsn rfl (gsn rfl (gsn rfl f_p18))), (gsn rfl (gsn rfl (gsn rfl f_p20))), gse, (by omega), (by omega), (by omega), (by omega), (by omega), (by omega), hb_n3, lt_n3, hb_n4, lt_n4, hb_n7, lt_n7, hb_n8, lt_n8, S, Z, X, R, G, A, nf_n3_S, nf_n3_Z, nf_n3_X, nf_n3_R, nf_n3_G, nf_n3_A, nf_n4_S, nf_n4_Z, nf_n4_X, nf_n4_R, nf_n4_G, nf_n4_A, nf_n7_S, nf_n7_Z, nf_n7_X, nf_n7_R, nf_n7_G, nf_n7_A, nf_n8_S, nf_n8_Z, nf_n8_X, nf_n8_R, nf_n8_G, nf_n8_A, dj_S_Z, dj_S_X, dj_S_R, dj_S_G, dj_Z_S, dj_Z_X, dj_Z_R, dj_Z_G, dj_X_S, dj_X_Z, dj_X_R, dj_X_G, dj_R_S, dj_R_Z, dj_R_X, dj_R_G, dj_G_S, dj_G_Z, dj_G_X, dj_G_R, dj_A_S, dj_A_Z, dj_A_X, dj_A_R, dj_A_G⟩
                ·
                  have ho14 := of_decide_eq_true ho14.symm
                  refine w_mv_bool rfl ?_
                  refine w_gop rfl (fun _ => ?_) (fun hh => nomatch hh)
                  refine w_mv_ptr (evs' (gsn rfl f_p11)) ?_
                  refine w_gop rfl (fun _ => ?_) (fun hh => nomatch hh)
                  refine w_mv_int (evs' (gsn rfl f_p25)) ?_
                  refine w_gop rfl (fun _ => ?_) (fun hh => nomatch hh)
                  refine w_add rfl rfl (wr64 (by omega) (by omega)) ?_
                  refine w_gop rfl (fun _ => ?_) (fun hh => nomatch hh)
                  refine w_mv_int (evs' (gsn rfl f_p20)) ?_
                  refine w_gcall rfl (fun _ => ?_) (fun hh => nomatch hh)
                  refine w_call (free_ok _ _ _ n8 _ _ _ _ _ _ _ _ _ hb_n8 X nf_n8_X lt_n8 (by omega) (by omega) (fun h15 hfr15 hq Sq kp15 => ?_) (fun h15 hfr15 hq Sq kp15 => ?_))
                  ·
                    have hr : rd (readF 100 nb (t + g9 % 600)) ti2 = (readF 100 nb (t + g9 % 600)) := by unfold rd; omega
                    rw [hr] at hfr15
                    obtain ⟨y, hy, hbl⟩ := safe_law hp0 hp1 hna0 hnb1 (by omega) (by omega) (by omega) hZ9 ho14
                    exact absurd hbl (hfr15 y hy)
                  ·
                    have hb_n3 := kp15.get hb_n3 lt_n3 (ni1 (by omega))
                    have hb_n4 := kp15.get hb_n4 lt_n4 (ni1 (by omega))
                    have hb_n7 := kp15.get hb_n7 lt_n7 (ni1 (by omega))
                    have S := S.keep kp15 (nF1 nf_n8_S)
                    have Z := Z.keep kp15 (nF1 nf_n8_Z)
                    have R := R.keep kp15 (nF1 nf_n8_R)
                    have G := G.keep kp15 (nF1 nf_n8_G)
                    have A := A.keep kp15 (nF1 nf_n8_A)
                    have lt_n3 := kp15.lt lt_n3
                    have lt_n4 := kp15.lt lt_n4
                    have lt_n7 := kp15.lt lt_n7
                    have lt_n8 := kp15.lt lt_n8
                    have hr : rd (readF 100 nb (t + g9 % 600)) ti2 = (readF 100 nb (t + g9 % 600)) := by unfold rd; omega
                    rw [hr] at hq
                    have hb_n8 := hq
                    have X := Sq
                    refine w_pick rfl (fun _ => ?_) (fun hh => nomatch hh)
                    refine w_mv_bool rfl ?_
                    refine w_kp ?_
                    refine w_nil ?_
                    refine w_cond (evs' gse) (fun hh => nomatch hh) (fun _ => ?_)
                    refine w_skip ?_
                    refine w_reg ?_
                    refine w_mv_int (evs' (gsn rfl (gsn rfl f_p25))) ?_
                    refine w_add rfl rfl (wr64 (by omega) (by omega)) ?_
                    refine w_mv_int rfl ?_
                    refine w_kp ?_
                    refine w_nil ?_
                    exact ⟨kk - 1, by omega, ap + 1, _, _, _, (gsn rfl (gsn rfl (gsn rfl f_p1))), (gsn rfl (gsn rfl (gsn rfl f_p7))), (gsn rfl (gsn rfl (gsn rfl f_p8))), (gsn rfl (gsn rfl (gsn rfl f_p10))), (gsn rfl (gsn rfl (gsn rfl f_p11))), (gsn rfl (gsn rfl (gsn rfl f_p13))), (gsn rfl (gsn rfl (gsn rfl f_p14))), (gsn rfl (gsn rfl (gsn rfl f_p15))), (gsn rfl (gsn rfl (gsn rfl f_p16))), (gsn rfl (gsn rfl (gsn rfl f_p18))), (gsn rfl (gsn rfl (gsn rfl f_p20))), gse, (by omega), (by omega), (by omega), (by omega), (by omega), (by omega), hb_n3, lt_n3, hb_n4, lt_n4, hb_n7, lt_n7, hb_n8, lt_n8, S, Z, X, R, G, A, nf_n3_S, nf_n3_Z, nf_n3_X, nf_n3_R, nf_n3_G, nf_n3_A, nf_n4_S, nf_n4_Z, nf_n4_X, nf_n4_R, nf_n4_G, nf_n4_A, nf_n7_S, nf_n7_Z, nf_n7_X, nf_n7_R, nf_n7_G, nf_n7_A, nf_n8_S, nf_n8_Z, nf_n8_X, nf_n8_R, nf_n8_G, nf_n8_A, dj_S_Z, dj_S_X, dj_S_R, dj_S_G, dj_Z_S, dj_Z_X, dj_Z_R, dj_Z_G, dj_X_S, dj_X_Z, dj_X_R, dj_X_G, dj_R_S, dj_R_Z, dj_R_X, dj_R_G, dj_G_S, dj_G_Z, dj_G_X, dj_G_R, dj_A_S, dj_A_Z, dj_A_X, dj_A_R, dj_A_G⟩
              ·
                refine w_kp ?_
                refine w_nil ?_
                refine w_cond (evs' gse) (fun hh => nomatch hh) (fun _ => ?_)
                refine w_exit ?_
                refine w_reg ?_
                refine w_mv_int (evs' (gsn rfl f_p16)) ?_
                refine w_add rfl rfl (wr64 (by omega) (by omega)) ?_
                refine w_mv_int rfl ?_
                refine w_kp ?_
                refine w_nil ?_
                exact ⟨kk0 - 1, by omega, i + 1, _, _, _, _, _, _, _, _, _, _, _, _, _, _, _, _, _, _, _, (gsn rfl (gsn rfl f_p1)), (gsn rfl (gsn rfl f_p7)), (gsn rfl (gsn rfl f_p8)), (gsn rfl (gsn rfl f_p10)), (gsn rfl (gsn rfl f_p11)), (gsn rfl (gsn rfl f_p13)), (gsn rfl (gsn rfl f_p14)), (gsn rfl (gsn rfl f_p15)), gse, (by omega), (by omega), (by omega), (by omega), (by omega), (by omega), (by omega), (by omega), (hu), (hlu), (hls), (hR9), (hG9), (hZ9), (by omega), (by omega), (by omega), hb_n3, lt_n3, hb_n4, lt_n4, hb_n7, lt_n7, hb_n8, lt_n8, S, Z, X, R, G, A, nf_n3_S, nf_n3_Z, nf_n3_X, nf_n3_R, nf_n3_G, nf_n3_A, nf_n4_S, nf_n4_Z, nf_n4_X, nf_n4_R, nf_n4_G, nf_n4_A, nf_n7_S, nf_n7_Z, nf_n7_X, nf_n7_R, nf_n7_G, nf_n7_A, nf_n8_S, nf_n8_Z, nf_n8_X, nf_n8_R, nf_n8_G, nf_n8_A, dj_S_Z, dj_S_X, dj_S_R, dj_S_G, dj_Z_S, dj_Z_X, dj_Z_R, dj_Z_G, dj_X_S, dj_X_Z, dj_X_R, dj_X_G, dj_R_S, dj_R_Z, dj_R_X, dj_R_G, dj_G_S, dj_G_Z, dj_G_X, dj_G_R, dj_A_S, dj_A_Z, dj_A_X, dj_A_R, dj_A_G⟩
          ·
            refine w_mv_bool rfl ?_
            refine w_kp ?_
            refine w_nil ?_
            refine w_cond (evs' gse) (fun hh => nomatch hh) (fun _ => ?_)
            refine w_skip ?_
            refine w_seq ?_
            refine w_reg ?_
            refine w_mv_int rfl ?_
            refine w_kp ?_
            refine w_nil ?_
            refine w_block ?_
            obtain ⟨kk0, hkk0⟩ : ∃ q, q = kk := ⟨kk, rfl⟩
            have htt : t ≤ (t + g9 % 600) := by omega
            have hR9 : ∀ e ∈ xr, ∃ s, e = [V.int .i64 s] ∧ Asked na (t + g9 % 600) s := fun e he => let ⟨s, a, b⟩ := hR e he; ⟨s, a, b.le htt⟩
            have hG9 : ∀ e ∈ xg, ∃ s n, e = [V.int .i64 s, .int .i64 n, .int .i64 (1 + lg % 2000)] ∧ 0 ≤ n ∧ Given1 na nb pp (1 + lg % 2000) (t + g9 % 600) lx n s := fun e he => let ⟨s, n, a, b, c⟩ := hG e he; ⟨s, n, a, b, (c.le htt)⟩
            have hZ9 : ∀ y ∈ lea, ∃ s, y.2 = s - 1 + holdF (1 + lg % 2000) pp ∧ Given1 na nb pp (1 + lg % 2000) (t + g9 % 600) lx y.1 s := fun y hy => let ⟨s, a, b⟩ := hZ y hy; ⟨s, a, (b.le htt)⟩
            refine w_loop (fun kk fr hh => ∃ (ap : Int) (th2 : Int) (gr2 : Int) (ti2 : Int), fr.get p1 = some (va) ∧ fr.get p7 = some (.ptr n3 0) ∧ fr.get p8 = some (.ptr n4 0) ∧ fr.get p10 = some (.ptr n7 0) ∧ fr.get p11 = some (.ptr n8 0) ∧ fr.get p13 = some (vr) ∧ fr.get p14 = some (vg) ∧ fr.get p15 = some (.int .i64 (t + g9 % 600)) ∧ fr.get p16 = some (.int .i64 i) ∧ fr.get p18 = some (.int .i64 (readF 7 na (t + g9 % 600))) ∧ fr.get p20 = some (.int .i64 (readF 100 nb (t + g9 % 600))) ∧ fr.get p25 = some (.int .i64 ap) ∧ (0 ≤ ap) ∧ (ap + (kk : Int) = 8) ∧ (0 ≤ th2) ∧ (th2 ≤ (readF 7 na (t + g9 % 600))) ∧ (0 ≤ ti2) ∧ (ti2 ≤ (readF 100 nb (t + g9 % 600))) ∧ (hh.get n3 = some (.cells [.int .i64 7, .int .i64 na, .int .i64 1000] false)) ∧ (n3.num < hh.next.num) ∧ (hh.get n4 = some (.cells [.int .i64 100, .int .i64 nb, .int .i64 1000] false)) ∧ (n4.num < hh.next.num) ∧ (hh.get n7 = some (.cells [.int .i64 pp, .int .i64 th2, .int .i64 gr2, vs, vl] false)) ∧ (n7.num < hh.next.num) ∧ (hh.get n8 = some (.cells [.int .i64 (1 + lg % 2000), .int .i64 pp, .int .i64 ti2, vx] false)) ∧ (n8.num < hh.next.num) ∧ (Sl 1 hh vs FS xs) ∧ (Sl 2 hh vl FZ (lea.map le)) ∧ (Sl 3 hh vx FX (lx.map ge)) ∧ (Sl 1 hh vr FR xr) ∧ (Sl 3 hh vg FG xg) ∧ (Ar 4 hh va FA xa) ∧ (n3 ∉ FS) ∧ (n3 ∉ FZ) ∧ (n3 ∉ FX) ∧ (n3 ∉ FR) ∧ (n3 ∉ FG) ∧ (n3 ∉ FA) ∧ (n4 ∉ FS) ∧ (n4 ∉ FZ) ∧ (n4 ∉ FX) ∧ (n4 ∉ FR) ∧ (n4 ∉ FG) ∧ (n4 ∉ FA) ∧ (n7 ∉ FS) ∧ (n7 ∉ FZ) ∧ (n7 ∉ FX) ∧ (n7 ∉ FR) ∧ (n7 ∉ FG) ∧ (n7 ∉ FA) ∧ (n8 ∉ FS) ∧ (n8 ∉ FZ) ∧ (n8 ∉ FX) ∧ (n8 ∉ FR) ∧ (n8 ∉ FG) ∧ (n8 ∉ FA) ∧ (∀ x ∈ FS, x ∉ FZ) ∧ (∀ x ∈ FS, x ∉ FX) ∧ (∀ x ∈ FS, x ∉ FR) ∧ (∀ x ∈ FS, x ∉ FG) ∧ (∀ x ∈ FZ, x ∉ FS) ∧ (∀ x ∈ FZ, x ∉ FX) ∧ (∀ x ∈ FZ, x ∉ FR) ∧ (∀ x ∈ FZ, x ∉ FG) ∧ (∀ x ∈ FX, x ∉ FS) ∧ (∀ x ∈ FX, x ∉ FZ) ∧ (∀ x ∈ FX, x ∉ FR) ∧ (∀ x ∈ FX, x ∉ FG) ∧ (∀ x ∈ FR, x ∉ FS) ∧ (∀ x ∈ FR, x ∉ FZ) ∧ (∀ x ∈ FR, x ∉ FX) ∧ (∀ x ∈ FR, x ∉ FG) ∧ (∀ x ∈ FG, x ∉ FS) ∧ (∀ x ∈ FG, x ∉ FZ) ∧ (∀ x ∈ FG, x ∉ FX) ∧ (∀ x ∈ FG, x ∉ FR) ∧ (∀ x ∈ FA, x ∉ FS) ∧ (∀ x ∈ FA, x ∉ FZ) ∧ (∀ x ∈ FA, x ∉ FX) ∧ (∀ x ∈ FA, x ∉ FR) ∧ (∀ x ∈ FA, x ∉ FG)) (k := 8) (by omega) ⟨0, _, _, _, (gsn rfl (gsn rfl (gsn rfl (gsn rfl (gsn rfl (gsn rfl (gsn rfl (gsn rfl (gsn rfl (gsn rfl (gsn rfl (gsn rfl (gsn rfl f_p1))))))))))))), (gsn rfl (gsn rfl (gsn rfl (gsn rfl (gsn rfl (gsn rfl (gsn rfl (gsn rfl (gsn rfl (gsn rfl (gsn rfl (gsn rfl (gsn rfl f_p7))))))))))))), (gsn rfl (gsn rfl (gsn rfl (gsn rfl (gsn rfl (gsn rfl (gsn rfl (gsn rfl (gsn rfl (gsn rfl (gsn rfl (gsn rfl (gsn rfl f_p8))))))))))))), (gsn rfl (gsn rfl (gsn rfl (gsn rfl (gsn rfl (gsn rfl (gsn rfl (gsn rfl (gsn rfl (gsn rfl (gsn rfl (gsn rfl (gsn rfl f_p10))))))))))))), (gsn rfl (gsn rfl (gsn rfl (gsn rfl (gsn rfl (gsn rfl (gsn rfl (gsn rfl (gsn rfl (gsn rfl (gsn rfl (gsn rfl (gsn rfl f_p11))))))))))))), (gsn rfl (gsn rfl (gsn rfl (gsn rfl (gsn rfl (gsn rfl (gsn rfl (gsn rfl (gsn rfl (gsn rfl (gsn rfl (gsn rfl (gsn rfl f_p13))))))))))))), (gsn rfl (gsn rfl (gsn rfl (gsn rfl (gsn rfl (gsn rfl (gsn rfl (gsn rfl (gsn rfl (gsn rfl (gsn rfl (gsn rfl (gsn rfl f_p14))))))))))))), (gsn rfl (gsn rfl (gsn rfl (gsn rfl (gsn rfl (gsn rfl (gsn rfl (gsn rfl (gsn rfl (gsn rfl gse)))))))))), (gsn rfl (gsn rfl (gsn rfl (gsn rfl (gsn rfl (gsn rfl (gsn rfl (gsn rfl (gsn rfl (gsn rfl (gsn rfl (gsn rfl (gsn rfl f_p16))))))))))))), (gsn rfl (gsn rfl (gsn rfl (gsn rfl (gsn rfl (gsn rfl (gsn rfl (gsn rfl (gsn rfl gse))))))))), (gsn rfl (gsn rfl (gsn rfl (gsn rfl (gsn rfl (gsn rfl (gsn rfl gse))))))), gse, (by omega), (by omega), (by omega), (by omega), (by omega), (by omega), hb_n3, lt_n3, hb_n4, lt_n4, hb_n7, lt_n7, hb_n8, lt_n8, S, Z, X, R, G, A, nf_n3_S, nf_n3_Z, nf_n3_X, nf_n3_R, nf_n3_G, nf_n3_A, nf_n4_S, nf_n4_Z, nf_n4_X, nf_n4_R, nf_n4_G, nf_n4_A, nf_n7_S, nf_n7_Z, nf_n7_X, nf_n7_R, nf_n7_G, nf_n7_A, nf_n8_S, nf_n8_Z, nf_n8_X, nf_n8_R, nf_n8_G, nf_n8_A, dj_S_Z, dj_S_X, dj_S_R, dj_S_G, dj_Z_S, dj_Z_X, dj_Z_R, dj_Z_G, dj_X_S, dj_X_Z, dj_X_R, dj_X_G, dj_R_S, dj_R_Z, dj_R_X, dj_R_G, dj_G_S, dj_G_Z, dj_G_X, dj_G_R, dj_A_S, dj_A_Z, dj_A_X, dj_A_R, dj_A_G⟩ ?_
            refine fun kk fr hh => ex_i fun ap => ex_i fun th2 => ex_i fun gr2 => ex_i fun ti2 => and_i fun f_p1 => and_i fun f_p7 => and_i fun f_p8 => and_i fun f_p10 => and_i fun f_p11 => and_i fun f_p13 => and_i fun f_p14 => and_i fun f_p15 => and_i fun f_p16 => and_i fun f_p18 => and_i fun f_p20 => and_i fun f_p25 => and_i fun hap0 => and_i fun hap1 => and_i fun hth2 => and_i fun hth3 => and_i fun hti2 => and_i fun hti3 => and_i fun hb_n3 => and_i fun lt_n3 => and_i fun hb_n4 => and_i fun lt_n4 => and_i fun hb_n7 => and_i fun lt_n7 => and_i fun hb_n8 => and_i fun lt_n8 => and_i fun S => and_i fun Z => and_i fun X => and_i fun R => and_i fun G => and_i fun A => and_i fun nf_n3_S => and_i fun nf_n3_Z => and_i fun nf_n3_X => and_i fun nf_n3_R => and_i fun nf_n3_G => and_i fun nf_n3_A => and_i fun nf_n4_S => and_i fun nf_n4_Z => and_i fun nf_n4_X => and_i fun nf_n4_R => and_i fun nf_n4_G => and_i fun nf_n4_A => and_i fun nf_n7_S => and_i fun nf_n7_Z => and_i fun nf_n7_X => and_i fun nf_n7_R => and_i fun nf_n7_G => and_i fun nf_n7_A => and_i fun nf_n8_S => and_i fun nf_n8_Z => and_i fun nf_n8_X => and_i fun nf_n8_R => and_i fun nf_n8_G => and_i fun nf_n8_A => and_i fun dj_S_Z => and_i fun dj_S_X => and_i fun dj_S_R => and_i fun dj_S_G => and_i fun dj_Z_S => and_i fun dj_Z_X => and_i fun dj_Z_R => and_i fun dj_Z_G => and_i fun dj_X_S => and_i fun dj_X_Z => and_i fun dj_X_R => and_i fun dj_X_G => and_i fun dj_R_S => and_i fun dj_R_Z => and_i fun dj_R_X => and_i fun dj_R_G => and_i fun dj_G_S => and_i fun dj_G_Z => and_i fun dj_G_X => and_i fun dj_G_R => and_i fun dj_A_S => and_i fun dj_A_Z => and_i fun dj_A_X => and_i fun dj_A_R => fun dj_A_G => ?_
            refine w_seq ?_
            refine w_seq ?_
            refine w_reg ?_
            refine w_mv_int (evs' f_p25) ?_
            refine w_lt rfl rfl (fun c16 => ?_) (fun c16 => ?_)
            ·
              refine w_kp ?_
              refine w_nil ?_
              refine w_cond (evs' gse) (fun _ => ?_) (fun hh => nomatch hh)
              refine w_skip ?_
              refine w_seq ?_
              refine w_block ?_
              refine w_seq ?_
              refine w_reg ?_
              refine w_mv_ptr (evs' (gsn rfl f_p10)) ?_
              refine w_mv_int (evs' (gsn rfl f_p18)) ?_
              refine w_mv_int (evs' (gsn rfl f_p25)) ?_
              refine w_call (holds_ok _ _ _ n7 _ _ _ _ _ _ _ _ _ hb_n7 Z nf_n7_Z lt_n7 (by omega) (by omega) (fun h14 t14 ho14 hq Sq kp14 => ?_))
              have hb_n3 := kp14.get hb_n3 lt_n3 (ni1 (by omega))
              have hb_n4 := kp14.get hb_n4 lt_n4 (ni1 (by omega))
              have hb_n8 := kp14.get hb_n8 lt_n8 (ni1 (by omega))
              have S := S.keep kp14 (nF1 nf_n7_S)
              have X := X.keep kp14 (nF1 nf_n7_X)
              have R := R.keep kp14 (nF1 nf_n7_R)
              have G := G.keep kp14 (nF1 nf_n7_G)
              have A := A.keep kp14 (nF1 nf_n7_A)
              have lt_n3 := kp14.lt lt_n3
              have lt_n4 := kp14.lt lt_n4
              have lt_n7 := kp14.lt lt_n7
              have lt_n8 := kp14.lt lt_n8
              have hr : rd (readF 7 na (t + g9 % 600)) th2 = (readF 7 na (t + g9 % 600)) := by unfold rd; omega
              have hmx : max ap 0 = ap := by omega
              rw [hr] at hq ho14
              rw [hmx] at ho14
              have hb_n7 := hq
              have Z := Sq
              cases t14
              ·
                refine w_mv_bool rfl ?_
                refine w_gop rfl (fun hh => nomatch hh) (fun _ => ?_)
                refine w_gop rfl (fun hh => nomatch hh) (fun _ => ?_)
                refine w_gop rfl (fun hh => nomatch hh) (fun _ => ?_)
                refine w_gop rfl (fun hh => nomatch hh) (fun _ => ?_)
                refine w_gcall rfl (fun hh => nomatch hh) (fun _ => ?_)
                refine w_pick rfl (fun hh => nomatch hh) (fun _ => ?_)
                refine w_mv_bool rfl ?_
                refine w_kp ?_
                refine w_nil ?_
                refine w_cond (evs' gse) (fun hh => nomatch hh) (fun _ => ?_)
                refine w_skip ?_
                refine w_reg ?_
                refine w_mv_int (evs' (gsn rfl (gsn rfl f_p25))) ?_
                refine w_add rfl rfl (wr64 (by omega) (by omega)) ?_
                refine w_mv_int rfl ?_
                refine w_kp ?_
                refine w_nil ?_
                exact ⟨kk - 1, by omega, ap + 1, _, _, _, (gsn rfl (gsn rfl (gsn rfl f_p1))), (gsn rfl (gsn rfl (gsn rfl f_p7))), (gsn rfl (gsn rfl (gsn rfl f_p8))), (gsn rfl (gsn rfl (gsn rfl f_p10))), (gsn rfl (gsn rfl (gsn rfl f_p11))), (gsn rfl (gsn rfl (gsn rfl f_p13))), (gsn rfl (gsn rfl (gsn rfl f_p14))), (gsn rfl (gsn rfl (gsn rfl f_p15))), (gsn rfl (gsn rfl (gsn rfl f_p16))), (gsn rfl (gsn rfl (gsn rfl f_p18))), (gsn rfl (gsn rfl (gsn rfl f_p20))), gse, (by omega), (by omega), (by omega), (by omega), (by omega), (by omega), hb_n3, lt_n3, hb_n4, lt_n4, hb_n7, lt_n7, hb_n8, lt_n8, S, Z, X, R, G, A, nf_n3_S, nf_n3_Z, nf_n3_X, nf_n3_R, nf_n3_G, nf_n3_A, nf_n4_S, nf_n4_Z, nf_n4_X, nf_n4_R, nf_n4_G, nf_n4_A, nf_n7_S, nf_n7_Z, nf_n7_X, nf_n7_R, nf_n7_G, nf_n7_A, nf_n8_S, nf_n8_Z, nf_n8_X, nf_n8_R, nf_n8_G, nf_n8_A, dj_S_Z, dj_S_X, dj_S_R, dj_S_G, dj_Z_S, dj_Z_X, dj_Z_R, dj_Z_G, dj_X_S, dj_X_Z, dj_X_R, dj_X_G, dj_R_S, dj_R_Z, dj_R_X, dj_R_G, dj_G_S, dj_G_Z, dj_G_X, dj_G_R, dj_A_S, dj_A_Z, dj_A_X, dj_A_R, dj_A_G⟩
              ·
                have ho14 := of_decide_eq_true ho14.symm
                refine w_mv_bool rfl ?_
                refine w_gop rfl (fun _ => ?_) (fun hh => nomatch hh)
                refine w_mv_ptr (evs' (gsn rfl f_p11)) ?_
                refine w_gop rfl (fun _ => ?_) (fun hh => nomatch hh)
                refine w_mv_int (evs' (gsn rfl f_p25)) ?_
                refine w_gop rfl (fun _ => ?_) (fun hh => nomatch hh)
                refine w_add rfl rfl (wr64 (by omega) (by omega)) ?_
                refine w_gop rfl (fun _ => ?_) (fun hh => nomatch hh)
                refine w_mv_int (evs' (gsn rfl f_p20)) ?_
                refine w_gcall rfl (fun _ => ?_) (fun hh => nomatch hh)
                refine w_call (free_ok _ _ _ n8 _ _ _ _ _ _ _ _ _ hb_n8 X nf_n8_X lt_n8 (by omega) (by omega) (fun h15 hfr15 hq Sq kp15 => ?_) (fun h15 hfr15 hq Sq kp15 => ?_))
                ·
                  have hr : rd (readF 100 nb (t + g9 % 600)) ti2 = (readF 100 nb (t + g9 % 600)) := by unfold rd; omega
                  rw [hr] at hfr15
                  obtain ⟨y, hy, hbl⟩ := safe_law hp0 hp1 hna0 hnb1 (by omega) (by omega) (by omega) hZ9 ho14
                  exact absurd hbl (hfr15 y hy)
                ·
                  have hb_n3 := kp15.get hb_n3 lt_n3 (ni1 (by omega))
                  have hb_n4 := kp15.get hb_n4 lt_n4 (ni1 (by omega))
                  have hb_n7 := kp15.get hb_n7 lt_n7 (ni1 (by omega))
                  have S := S.keep kp15 (nF1 nf_n8_S)
                  have Z := Z.keep kp15 (nF1 nf_n8_Z)
                  have R := R.keep kp15 (nF1 nf_n8_R)
                  have G := G.keep kp15 (nF1 nf_n8_G)
                  have A := A.keep kp15 (nF1 nf_n8_A)
                  have lt_n3 := kp15.lt lt_n3
                  have lt_n4 := kp15.lt lt_n4
                  have lt_n7 := kp15.lt lt_n7
                  have lt_n8 := kp15.lt lt_n8
                  have hr : rd (readF 100 nb (t + g9 % 600)) ti2 = (readF 100 nb (t + g9 % 600)) := by unfold rd; omega
                  rw [hr] at hq
                  have hb_n8 := hq
                  have X := Sq
                  refine w_pick rfl (fun _ => ?_) (fun hh => nomatch hh)
                  refine w_mv_bool rfl ?_
                  refine w_kp ?_
                  refine w_nil ?_
                  refine w_cond (evs' gse) (fun hh => nomatch hh) (fun _ => ?_)
                  refine w_skip ?_
                  refine w_reg ?_
                  refine w_mv_int (evs' (gsn rfl (gsn rfl f_p25))) ?_
                  refine w_add rfl rfl (wr64 (by omega) (by omega)) ?_
                  refine w_mv_int rfl ?_
                  refine w_kp ?_
                  refine w_nil ?_
                  exact ⟨kk - 1, by omega, ap + 1, _, _, _, (gsn rfl (gsn rfl (gsn rfl f_p1))), (gsn rfl (gsn rfl (gsn rfl f_p7))), (gsn rfl (gsn rfl (gsn rfl f_p8))), (gsn rfl (gsn rfl (gsn rfl f_p10))), (gsn rfl (gsn rfl (gsn rfl f_p11))), (gsn rfl (gsn rfl (gsn rfl f_p13))), (gsn rfl (gsn rfl (gsn rfl f_p14))), (gsn rfl (gsn rfl (gsn rfl f_p15))), (gsn rfl (gsn rfl (gsn rfl f_p16))), (gsn rfl (gsn rfl (gsn rfl f_p18))), (gsn rfl (gsn rfl (gsn rfl f_p20))), gse, (by omega), (by omega), (by omega), (by omega), (by omega), (by omega), hb_n3, lt_n3, hb_n4, lt_n4, hb_n7, lt_n7, hb_n8, lt_n8, S, Z, X, R, G, A, nf_n3_S, nf_n3_Z, nf_n3_X, nf_n3_R, nf_n3_G, nf_n3_A, nf_n4_S, nf_n4_Z, nf_n4_X, nf_n4_R, nf_n4_G, nf_n4_A, nf_n7_S, nf_n7_Z, nf_n7_X, nf_n7_R, nf_n7_G, nf_n7_A, nf_n8_S, nf_n8_Z, nf_n8_X, nf_n8_R, nf_n8_G, nf_n8_A, dj_S_Z, dj_S_X, dj_S_R, dj_S_G, dj_Z_S, dj_Z_X, dj_Z_R, dj_Z_G, dj_X_S, dj_X_Z, dj_X_R, dj_X_G, dj_R_S, dj_R_Z, dj_R_X, dj_R_G, dj_G_S, dj_G_Z, dj_G_X, dj_G_R, dj_A_S, dj_A_Z, dj_A_X, dj_A_R, dj_A_G⟩
            ·
              refine w_kp ?_
              refine w_nil ?_
              refine w_cond (evs' gse) (fun hh => nomatch hh) (fun _ => ?_)
              refine w_exit ?_
              refine w_reg ?_
              refine w_mv_int (evs' (gsn rfl f_p16)) ?_
              refine w_add rfl rfl (wr64 (by omega) (by omega)) ?_
              refine w_mv_int rfl ?_
              refine w_kp ?_
              refine w_nil ?_
              exact ⟨kk0 - 1, by omega, i + 1, _, _, _, _, _, _, _, _, _, _, _, _, _, _, _, _, _, _, _, (gsn rfl (gsn rfl f_p1)), (gsn rfl (gsn rfl f_p7)), (gsn rfl (gsn rfl f_p8)), (gsn rfl (gsn rfl f_p10)), (gsn rfl (gsn rfl f_p11)), (gsn rfl (gsn rfl f_p13)), (gsn rfl (gsn rfl f_p14)), (gsn rfl (gsn rfl f_p15)), gse, (by omega), (by omega), (by omega), (by omega), (by omega), (by omega), (by omega), (by omega), (hu), (hlu), (hls), (hR9), (hG9), (hZ9), (by omega), (by omega), (by omega), hb_n3, lt_n3, hb_n4, lt_n4, hb_n7, lt_n7, hb_n8, lt_n8, S, Z, X, R, G, A, nf_n3_S, nf_n3_Z, nf_n3_X, nf_n3_R, nf_n3_G, nf_n3_A, nf_n4_S, nf_n4_Z, nf_n4_X, nf_n4_R, nf_n4_G, nf_n4_A, nf_n7_S, nf_n7_Z, nf_n7_X, nf_n7_R, nf_n7_G, nf_n7_A, nf_n8_S, nf_n8_Z, nf_n8_X, nf_n8_R, nf_n8_G, nf_n8_A, dj_S_Z, dj_S_X, dj_S_R, dj_S_G, dj_Z_S, dj_Z_X, dj_Z_R, dj_Z_G, dj_X_S, dj_X_Z, dj_X_R, dj_X_G, dj_R_S, dj_R_Z, dj_R_X, dj_R_G, dj_G_S, dj_G_Z, dj_G_X, dj_G_R, dj_A_S, dj_A_Z, dj_A_X, dj_A_R, dj_A_G⟩
    ·
      refine w_kp ?_
      refine w_nil ?_
      refine w_cond (evs' gse) (fun hh => nomatch hh) (fun _ => ?_)
      refine w_exit ?_
      refine w_seq ?_
      refine w_reg ?_
      refine w_mv_bool rfl ?_
      refine w_kp ?_
      refine w_nil ?_
      refine w_ret ?_
      refine ens_ret1 gse ?_
      exact rfl
end Go.Am
namespace Go.Proofs.Ytfgolglgogmniaa
open Go.ChangeShapes Go.WideShapes Go.ChangeAt Go.RowKit Go.Am

theorem own5 : ownKnob Try.prog.godebug = none := by kernel_rfl
theorem tab5 : tabOk Try.prog = true := by kernel_rfl
theorem ng5 : Try.prog.globals.size = 0 := by kernel_rfl
theorem elem_event {xs : List (List V)} (h : ∀ y ∈ xs, Elem [.u8, .u8, .u16, .u8] y) : ∀ e ∈ xs, ∃ k p g n, e = [.int .u8 k, .int .u8 p, .int .u16 g, .int .u8 n] ∧ (0 ≤ k ∧ k < 256) ∧ (0 ≤ p ∧ p < 256) ∧ (0 ≤ g ∧ g < 65536) ∧ (0 ≤ n ∧ n < 256) := by
  intro e he
  obtain ⟨n0, y0, rfl, h0, hy⟩ := (h e he).cons
  obtain ⟨n1, y1, rfl, h1, hy⟩ := hy.cons
  obtain ⟨n2, y2, rfl, h2, hy⟩ := hy.cons
  obtain ⟨n3, y3, rfl, h3, hy⟩ := hy.cons
  obtain rfl := hy.nil
  exact ⟨n0, n1, n2, n3, rfl, wf_u8 h0, wf_u8 h1, wf_u16 h2, wf_u8 h3⟩
def isStruct : Option TypeDesc → Bool
  | some (.struct _) => true
  | _ => false
/-- a struct of a number and an array of two -/
theorem open_rates {α : Type} {enc : TypeId × Value → α} {W : World} {base : Nat} {v : Value} {d : DataW α} {ps : List MemPlace} (hval : Value.okWide Try.prog W .any base 44 v) (hd : DataW.Trod enc Try.prog W 0 (fun _ => true) true 44 v d ps) :
    ∃ n a b, v = .agg #[.int .i64 n, .int .u32 a, .int .u32 b] ∧ (0 ≤ a ∧ a < 4294967296) ∧ (0 ≤ b ∧ b < 4294967296) := by
  have hv : ∃ cs, v = .agg cs := by
    have h0 : isStruct (Try.prog.underlying 44) = true := by kernel_rfl
    have h2 := hval
    unfold Value.okWide at h2
    cases h1 : Try.prog.underlying 44 with
    | none => rw [h1] at h0; cases h0
    | some u =>
      rw [h1] at h0 h2
      cases u <;> first | (cases h0; done) | (cases v <;> first | exact ⟨_, rfl⟩ | (simp at h2))
  obtain ⟨cs, rfl⟩ := hv
  obtain ⟨fuel, hd⟩ := hd
  have hi := shape_ok (P := Try.prog) 4 44 [.i64, .u32, .u32] (by kernel_rfl) (by kernel_rfl) fuel _ _ hd
  have hcs : (Value.agg cs).cells.toList = cs.toList := rfl
  rw [hcs] at hi
  obtain ⟨l⟩ := cs
  match l, hi with
  | [x, y, z], hi =>
    obtain ⟨n, rfl, hn⟩ := hi.2 0 .i64 x rfl rfl
    obtain ⟨a, rfl, ha⟩ := hi.2 1 .u32 y rfl rfl
    obtain ⟨b, rfl, hb⟩ := hi.2 2 .u32 z rfl rfl
    exact ⟨n, a, b, rfl, wf_u32 ha, wf_u32 hb⟩
  | [], hi => exact absurd hi.1 (by simp)
  | [x], hi => exact absurd hi.1 (by simp)
  | [x, y], hi => exact absurd hi.1 (by simp)
  | x :: y :: z :: t :: r, hi => exact absurd hi.1 (by simp)

set_option maxRecDepth 100000 in
theorem leaseSafe_lifted (os : Os) (started : os.Started) (H : Type) (enc : TypeId × Value → H) :
    ReturnsInHanded {} Try.checked os 5 .any (Rows.leaseSafeSpec.pre6 enc Try.prog Try.f5 Rows.leaseSafeRow.domain false) (Rows.leaseSafeSpec.post enc Try.prog Try.f5 false true false false) := by
  refine returnsInHanded_of_change (C := Try.checked) own5 started (by kernel_rfl) Try.func5
    (ChangeSpec.witness6 (enc := enc) (C := Try.checked) false ⟨#[], #[.agg #[.int .i64 0, .int .u32 0, .int .u32 0], .slice none 0 0, .int .u16 0], []⟩ 8 (by kernel_rfl) (by kernel_rfl) (by kernel_rfl) (by kernel_rfl)) ?_
  intro W base args ds gs before hval0 hW hcnd _
  have hval : ∀ (j : Nat) t v, Try.f5.params[j]? = some t → args[j]? = some v → Value.okWide Try.prog W .any base t v := hval0
  have hW' := hW
  obtain ⟨p, q, hA0, hV, rfl, hfz, hnd⟩ := hW
  have hA : DataW.TrodAll enc Try.prog W 0 (fun _ => true) true Try.f5.params.toList args.toList ds p := hA0
  rw [Try.params5] at hA hval
  obtain ⟨v0, vs0, d0, ds0, q0, r0, hargs, rfl, rfl, h0, hA⟩ := trodAll_cons hA
  obtain ⟨v1, vs1, d1, ds1, q1, r1, rfl, rfl, rfl, h1, hA⟩ := trodAll_cons hA
  obtain ⟨v2, vs2, d2, ds2, q2, r2, rfl, rfl, rfl, h2, hA⟩ := trodAll_cons hA
  obtain ⟨rfl, rfl, rfl⟩ := trodAll_nil hA
  obtain rfl : args = #[v0, v1, v2] := by cases args; simp_all
  obtain ⟨n, u0, u1, rfl, hu0, hu1⟩ := open_rates (hval 0 44 v0 rfl rfl) h0
  obtain ⟨l1, o1, f1, x1, b1, b2, b3, b4⟩ := arg_sl (P := Try.prog) (e := 57) (sh := [.u8, .u8, .u16, .u8]) (d := 3) (by kernel_rfl) (by kernel_rfl) (by kernel_rfl) (by decide) (hval 1 45 v1 rfl rfl) h1
  obtain ⟨lg, rfl, rfl, rfl, wl⟩ := open_int (k := .u16) (t := 27) (by kernel_rfl) (hval 2 27 v2 rfl rfl) h2
  have hcf := cf_ok 100000 20
  rw [ng5] at hcf
  have g : Given 0 [l1] [o1] W := ⟨rfl, fun i l cs e1 e2 => by
    rcases i with _ | i
    · obtain rfl := Option.some.inj e1; exact b2 _ cs (Option.some.inj e2)
    · simp at e1⟩
  obtain ⟨h, aw⟩ := awakeS o1 n u0 u1
  have n0 : (P.of 0).num = 0 := P.num_of 0
  have n1 : (P.of 1).num = 1 := P.num_of 1
  have hlt := aw.lt
  obtain ⟨FA, hF, hA2⟩ := b3 h (P.of 0) aw.get (by omega)
  have run := safe_ok 100000 (by decide) (H0 0 [o1]) h (P.of 1) rfl (f1 (P.of 0)) FA x1 n u0 u1 lg aw.run aw.run2 aw.arr (by omega) (fun hc => by have := congrArg P.num (hF _ hc); omega) hA2 (elem_event b4) hu0 hu1 (wf_u16 wl)
  refine (law_calls (p := p5) hcf Try.func5 (by kernel_rfl) (of_decide_eq_true (by kernel_rfl)) g ?_ (AllTrue.of_ens run)).mono fun e W' ⟨he, ho⟩ => ?_
  · refine VRs.cons ?_ (VRs.cons (b1 _ _ (io0_at 0 [l1] (i := 0) rfl)) (VRs.cons (.int _ _) (VRs.nil _)))
    refine VR.of_agg ⟨VRs.cons (.int _ _) (VRs.cons (.int _ _) (VRs.cons (.int _ _) (VRs.nil _))), ?_⟩
    intro v hv
    simp at hv
    rcases hv with rfl | rfl | rfl <;> rfl
  subst he
  exact ⟨_, rfl, law_post tab5 (by kernel_rfl) (tb := 4) (by kernel_rfl) (by kernel_rfl) rfl rfl hW' ho⟩

theorem leaseSafe_holds : Rows.LeaseSafeSaid :=
  OpenClaim.holds_of_wide 5 Try.f5 rfl rfl rfl rfl rfl rfl rfl ⟨rfl, rfl, rfl, rfl, rfl⟩ rfl rfl rfl rfl rfl (by kernel_rfl) Try.func5 (by kernel_rfl)
    (of_decide_eq_true (by kernel_rfl)) (by unfold Func.isWrapper; first | (rw [if_pos (by decide +kernel)]; kernel_rfl) | (rw [if_neg (by decide +kernel)]; exact ⟨rfl, rfl⟩))
    (fun os started H enc _ => leaseSafe_lifted os started H enc)
end Go.Proofs.Ytfgolglgogmniaa
