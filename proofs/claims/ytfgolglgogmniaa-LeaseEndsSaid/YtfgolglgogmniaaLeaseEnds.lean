/- LeaseEnds: the machine's run with any input ends with true. -/
import Derived.Test.YtfgolglgogmniaaTake
import Derived.Test.YtfgolglgogmniaaAw
import Derived.Test.YtfgolglgogmniaaRows
namespace Go.Am
set_option maxRecDepth 100000
set_option maxHeartbeats 8000000
def clipF (n lo hi : Int) : Int := max lo (min n hi)
theorem clip_ok (L d : Nat) (n lo hi : Int) (h : H) {Q : V → H → Prop} (k : Q (.int .i64 (clipF n lo hi)) h) : Ens (call fnt L (d + 1) p13 [.int .i64 n, .int .i64 lo, .int .i64 hi] h) Q := by
  refine w_fn (af := af13) rfl rfl rfl ?_
  refine w_seq ?_
  refine w_reg ?_
  refine w_mv_int rfl ?_
  refine w_kp ?_
  refine w_nil ?_
  refine w_seq ?_
  refine w_reg ?_
  refine w_mv_int (evs' (gsn rfl rfl)) ?_
  refine w_mv_int (evs' (gsn rfl rfl)) ?_
  refine w_mv_int (evs' (gsn rfl rfl)) ?_
  refine w_mn2 rfl rfl ?_
  refine w_mx2 rfl rfl ?_
  refine w_mv_int rfl ?_
  refine w_kp ?_
  refine w_nil ?_
  refine w_ret ?_
  refine ens_ret1 gse ?_
  exact k
theorem drop_ok (L d : Nat) (h : H) (b : P) (c0 c1 c2 : V) (vs vl : V) {Q : V → H → Prop} (hb_b : h.get b = some (.cells [c0, c1, c2, vs, vl] false)) (lt_b : b.num < h.next.num) (hS : vs.flat1 = some [vs]) (hL : vl.flat1 = some [vl])
    (k : ∀ h', h'.get b = some (.cells [c0, c1, c2, .nilsl, .nilsl] false) → Keep h h' [b] → Q (.tup []) h') : Ens (call fnt L (d + 1) p15 [.ptr b 0] h) Q := by
  refine w_fn (af := af15) rfl rfl rfl ?_
  refine w_seq ?_
  refine w_reg ?_
  refine w_mv_ptr (evs' rfl) ?_
  refine w_eqv (t' := true) rfl rfl rfl rfl ?_
  refine w_kp ?_
  refine w_nil ?_
  refine w_cond (evs' gse) (fun _ => ?_) (fun hh => nomatch hh)
  refine w_reg ?_
  refine w_mv_ptr (evs' (gsn rfl rfl)) ?_
  refine w_mv_ptr (evs' (gsn rfl rfl)) ?_
  refine w_nck rfl ?_
  refine w_fa rfl ?_
  refine m_st_v hb_b (v := .nilsl) rfl rfl rfl rfl (fun h1 hq kp1 => ?_)
  have lt_b := kp1.lt lt_b
  have hb_b := hq
  refine w_nck rfl ?_
  refine w_fa rfl ?_
  refine m_st_v hb_b (v := .nilsl) rfl rfl rfl rfl (fun h2 hq kp2 => ?_)
  have lt_b := kp2.lt lt_b
  have hb_b := hq
  refine w_nil ?_
  refine ens_ret0 ?_
  exact (k _ hb_b (((Keep.refl h [b]).trb kp1 (by simp)).trb kp2 (by simp)))
theorem untilF_up {a x y : Int} : ∀ (lea : List (Int × Int)), y ≤ x → untilF a x lea = max x (untilF a y lea) := by
  intro lea
  induction lea generalizing x y with
  | nil => intro h; show x = max x y; omega
  | cons z lea ih =>
    intro h
    show untilF a (if z.1 ≤ a then max x z.2 else x) lea = max x (untilF a (if z.1 ≤ a then max y z.2 else y) lea)
    split
    · rw [ih (x := max x z.2) (y := max y z.2) (by omega)]
      have := ih (x := max y z.2) (y := max y z.2) (Int.le_refl _)
      omega
    · exact ih h
theorem untilF_mono {a b y : Int} : ∀ (lea : List (Int × Int)) (x : Int), a ≤ b → x ≤ y → untilF a x lea ≤ untilF b y lea := by
  intro lea
  induction lea generalizing y with
  | nil => intro x _ h; exact h
  | cons z lea ih =>
    intro x hab h
    show untilF a (if z.1 ≤ a then max x z.2 else x) lea ≤ untilF b (if z.1 ≤ b then max y z.2 else y) lea
    refine ih _ hab ?_
    split <;> split <;> omega
theorem ends_ok (L : Nat) (hL : 1001 ≤ L) (h00 h : H) (n1 : P) (hn1 : n1 = h00.next) (va : V) (FA : List P) (xa : List (List V)) (ppm u0 u1 : Int) (aw : call fnt L 19 p8 [] (h00.alloc (.cells [.int .u8 u0, .int .u8 u1] false)) = .ok (.bool true) h) (aw2 : Ens (call fnt L 19 p8 [] h) fun v _ => v = .bool true)
    (hb_n1 : h.get n1 = some (.cells [.int .u8 u0, .int .u8 u1] false)) (lt_n1 : n1.num < h.next.num) (nf_n1_A : n1 ∉ FA) (A : Ar 5 h va FA xa) (eA : ∀ e ∈ xa, ∃ k a b c d, e = [.int .u8 k, .int .i64 a, .int .i64 b, .int .i64 c, .int .i64 d]) (hu0 : 0 ≤ u0 ∧ u0 < 256) (hu1 : 0 ≤ u1 ∧ u1 < 256) :
    Ens (call fnt L 20 p4 [.int .i64 ppm, va, .agg [.int .u8 u0, .int .u8 u1]] h00) (fun v _ => v = .bool true) := by
  refine w_fn (af := af4) rfl rfl rfl ?_
  refine w_seq ?_
  refine w_reg ?_
  refine w_eq (v := .ptr n1 0) (h' := h00.alloc (.cells [.int .u8 u0, .int .u8 u1] false)) (by rw [hn1]; rfl) ?_
  refine w_kp ?_
  refine w_mv_bool rfl ?_
  refine w_kp ?_
  refine w_nil ?_
  refine w_seq ?_
  refine w_seq ?_
  refine w_reg ?_
  refine w_call (ens_eq aw ?_)
  refine w_not rfl ?_
  refine w_mv_bool rfl ?_
  refine w_gop rfl (fun _ => ?_) (fun hh => nomatch hh)
  refine w_mv (evs' (gsn rfl (gsn rfl rfl))) ?_
  refine w_gop rfl (fun _ => ?_) (fun hh => nomatch hh)
  refine w_ar_len A rfl ?_
  refine w_gop rfl (fun _ => ?_) (fun hh => nomatch hh)
  refine w_gt rfl rfl (fun c1 => ?_) (fun c1 => ?_)
  ·
    refine w_pick rfl (fun hh => nomatch hh) (fun _ => ?_)
    refine w_mv_bool rfl ?_
    refine w_kp ?_
    refine w_nil ?_
    refine w_cond (evs' gse) (fun _ => ?_) (fun hh => nomatch hh)
    refine w_seq ?_
    refine w_reg ?_
    refine w_call (aw2.mono fun v hv2 hv => ?_)
    subst hv
    refine w_mv_bool rfl ?_
    refine w_kp ?_
    refine w_nil ?_
    refine w_ret ?_
    refine ens_ret1 gse ?_
    exact rfl
  ·
    refine w_pick rfl (fun hh => nomatch hh) (fun _ => ?_)
    refine w_mv_bool rfl ?_
    refine w_kp ?_
    refine w_nil ?_
    refine w_cond (evs' gse) (fun hh => nomatch hh) (fun _ => ?_)
    refine w_skip ?_
    refine w_seq ?_
    refine w_reg ?_
    refine w_mv_int (evs' (gsn rfl (gsn rfl (gsn rfl rfl)))) ?_
    refine w_call (newHolder_ok _ _ _ _ (fun n2 h2 hb_n2 kp2 nn2 hn2 => ?_))
    have nf_n2_A := A.new nn2
    have hb_n1 := kp2.get hb_n1 lt_n1 ni0
    have A := A.keep kp2 nF0
    have lt_n1 := kp2.lt lt_n1
    have S2 := Sl.nilsl 1 h2
    have Z2 : Sl 2 h2 .nilsl [] (([] : List (Int × Int)).map le) := Sl.nilsl 2 h2
    have lt_n2 : n2.num < h2.next.num := by omega
    have nf_n1_S2 : n1 ∉ ([] : List P) := ni0
    have nf_n2_S2 : n2 ∉ ([] : List P) := ni0
    -- dj
    have nf_n1_Z2 : n1 ∉ ([] : List P) := ni0
    have nf_n2_Z2 : n2 ∉ ([] : List P) := ni0
    -- dj
    -- dj
    refine w_mv_ptr rfl ?_
    refine w_kp ?_
    refine w_nil ?_
    refine w_seq ?_
    refine w_reg ?_
    refine w_mv_int rfl ?_
    refine w_kp ?_
    refine w_nil ?_
    refine w_seq ?_
    refine w_reg ?_
    refine m_alloc (fun n3 h3 hb_n3 kp3 nn3 hn3 => ?_)
    have nf_n3_A := A.new nn3
    have nf_n3_S2 := S2.new nn3
    have nf_n3_Z2 := Z2.new nn3
    have hb_n1 := kp3.get hb_n1 lt_n1 ni0
    have hb_n2 := kp3.get hb_n2 lt_n2 ni0
    have A := A.keep kp3 nF0
    have S2 := S2.keep kp3 nF0
    have Z2 := Z2.keep kp3 nF0
    have lt_n1 := kp3.lt lt_n1
    have lt_n2 := kp3.lt lt_n2
    have lt_n3 : n3.num < h3.next.num := by omega
    refine w_kp ?_
    refine w_nil ?_
    refine w_seq ?_
    refine w_seq ?_
    refine w_reg ?_
    refine w_mv_int rfl ?_
    refine w_kp ?_
    refine w_nil ?_
    refine w_block ?_
    have dj_A_S2 : ∀ x ∈ FA, x ∉ ([] : List P) := nF0
    have dj_Z2_S2 : ∀ x ∈ [], x ∉ ([] : List P) := nF0
    have dj_A_Z2 : ∀ x ∈ FA, x ∉ ([] : List P) := nF0
    have dj_S2_Z2 : ∀ x ∈ [], x ∉ ([] : List P) := nF0
    refine w_loop (fun kk fr hh => ∃ (i : Int) (now : Int) (t : Int) (gr : Int) (vs : V) (FU : List P) (xs : List (List V)) (vl : V) (FZ : List P) (lea : List (Int × Int)) (l1 : Int) (l2 : Int) (l3 : Int), fr.get p1 = some (va) ∧ fr.get p5 = some (.ptr n1 0) ∧ fr.get p7 = some (.ptr n2 0) ∧ fr.get p8 = some (.int .i64 now) ∧ fr.get p9 = some (.ptr n3 0) ∧ fr.get p10 = some (.int .i64 i) ∧ (0 ≤ i) ∧ (i + (kk : Int) = xa.length) ∧ (0 ≤ now) ∧ (now ≤ 1000 * i) ∧ (0 ≤ t) ∧ (t ≤ now) ∧ (xs.length ≤ 16) ∧ (∀ e ∈ xs, ∃ y, e = [.int .i64 y]) ∧ (lea.length ≤ 16) ∧ (∀ y ∈ lea, y.2 ≤ now + 1073741824) ∧ (hh.get n1 = some (.cells [.int .u8 u0, .int .u8 u1] false)) ∧ (n1.num < hh.next.num) ∧ (hh.get n2 = some (.cells [.int .i64 ppm, .int .i64 t, .int .i64 gr, vs, vl] false)) ∧ (n2.num < hh.next.num) ∧ (hh.get n3 = some (.cells [.int .i64 l1, .int .i64 l2, .int .i64 l3] false)) ∧ (n3.num < hh.next.num) ∧ (Sl 1 hh vs FU xs) ∧ (Sl 2 hh vl FZ (lea.map le)) ∧ (Ar 5 hh va FA xa) ∧ (n1 ∉ FU) ∧ (n1 ∉ FZ) ∧ (n1 ∉ FA) ∧ (n2 ∉ FU) ∧ (n2 ∉ FZ) ∧ (n2 ∉ FA) ∧ (n3 ∉ FU) ∧ (n3 ∉ FZ) ∧ (n3 ∉ FA) ∧ (∀ x ∈ FU, x ∉ FZ) ∧ (∀ x ∈ FZ, x ∉ FU) ∧ (∀ x ∈ FA, x ∉ FU) ∧ (∀ x ∈ FA, x ∉ FZ)) (k := xa.length) (by omega) ⟨0, 0, 0, 0, _, _, [], _, _, [], 0, 0, 0, (gsn rfl (gsn rfl (gsn rfl (gsn rfl (gsn rfl (gsn rfl (gsn rfl rfl))))))), (gsn rfl (gsn rfl (gsn rfl (gsn rfl (gsn rfl (gsn rfl gse)))))), (gsn rfl (gsn rfl (gsn rfl gse))), (gsn rfl (gsn rfl gse)), (gsn rfl gse), gse, (by omega), (by omega), (by omega), (by omega), (by omega), (by omega), (by simp), (fun e he => nomatch he), (by simp), (fun e he => nomatch he), hb_n1, lt_n1, hb_n2, lt_n2, hb_n3, lt_n3, S2, Z2, A, nf_n1_S2, nf_n1_Z2, nf_n1_A, nf_n2_S2, nf_n2_Z2, nf_n2_A, nf_n3_S2, nf_n3_Z2, nf_n3_A, dj_S2_Z2, dj_Z2_S2, dj_A_S2, dj_A_Z2⟩ ?_
    rintro kk fr hh ⟨i, now, t, gr, vs, FU, xs, vl, FZ, lea, l1, l2, l3, f_p1, f_p5, f_p7, f_p8, f_p9, f_p10, hi, hk, hnow, hnow2, ht, ht2, hlu, hu, hls, hle, hb_n1, lt_n1, hb_n2, lt_n2, hb_n3, lt_n3, U, Z, A, nf_n1_U, nf_n1_Z, nf_n1_A, nf_n2_U, nf_n2_Z, nf_n2_A, nf_n3_U, nf_n3_Z, nf_n3_A, dj_U_Z, dj_Z_U, dj_A_U, dj_A_Z⟩
    refine w_seq ?_
    refine w_seq ?_
    refine w_reg ?_
    refine w_mv_int (evs' f_p10) ?_
    refine w_mv (evs' f_p1) ?_
    refine w_ar_len A rfl ?_
    refine w_lt rfl rfl (fun c2 => ?_) (fun c2 => ?_)
    ·
      refine w_kp ?_
      refine w_nil ?_
      refine w_cond (evs' gse) (fun _ => ?_) (fun hh => nomatch hh)
      refine w_skip ?_
      refine w_seq ?_
      refine w_block ?_
      refine w_seq ?_
      refine w_reg ?_
      refine w_mv_int (evs' (gsn rfl f_p8)) ?_
      refine w_mv (evs' (gsn rfl f_p1)) ?_
      refine w_mv_int (evs' (gsn rfl f_p10)) ?_
      refine w_ar_ix A rfl rfl (by omega) (by omega) (fun s4 o4 cs4 e4 ro4 hs4 he4 ht4 hf4 => ?_)
      obtain ⟨k4, a4, b4, d4, g4, rfl⟩ := eA _ (List.mem_of_getElem? he4)
      have hcl : 0 ≤ clipF a4 0 1000 ∧ clipF a4 0 1000 ≤ 1000 := by unfold clipF; omega
      refine w_fa rfl ?_
      refine w_ld rfl hs4 (takeN_nth (j := 1) ht4 rfl) ?_
      refine w_call (clip_ok _ _ _ _ _ _ ?_)
      refine w_add rfl rfl (wr64 (by omega) (by omega)) ?_
      refine w_mv_int rfl ?_
      refine w_kp ?_
      refine w_nil ?_
      refine w_seq ?_
      refine w_reg ?_
      refine w_mv_ptr (evs' (gsn rfl (gsn rfl f_p7))) ?_
      refine w_mv_int (evs' gse) ?_
      refine w_call (ask_ok _ _ _ n2 _ _ _ _ _ _ _ _ hb_n2 U nf_n2_U lt_n2 (by omega) (by omega) (by omega) (fun h5 hc5 hq Sq kp5 => ?_) (fun h5 vs5 F5 xs5 hc5 hq kp5 Sq hx5 hf5 => ?_))
      ·
        have hb_n1 := kp5.get hb_n1 lt_n1 (ni1 (by omega))
        have hb_n3 := kp5.get hb_n3 lt_n3 (ni1 (by omega))
        have Z := Z.keep kp5 (nF1 nf_n2_Z)
        have A := A.keep kp5 (nF1 nf_n2_A)
        have lt_n1 := kp5.lt lt_n1
        have lt_n2 := kp5.lt lt_n2
        have lt_n3 := kp5.lt lt_n3
        have hb_n2 := hq
        have U := Sq
        have hr : rd (now + clipF a4 0 1000) t = (now + clipF a4 0 1000) := by unfold rd; omega
        rw [hr] at hb_n2
        refine w_mv_int rfl ?_
        refine w_kp ?_
        refine w_nil ?_
        refine w_seq ?_
        refine w_reg ?_
        refine w_mv_int (evs' gse) ?_
        refine w_mv (evs' (gsn rfl (gsn rfl (gsn rfl f_p1)))) ?_
        refine w_mv_int (evs' (gsn rfl (gsn rfl (gsn rfl f_p10)))) ?_
        refine w_ar_ix A rfl rfl (by omega) (by omega) (fun s6 o6 cs6 e6 ro6 hs6 he6 ht6 hf6 => ?_)
        obtain ⟨k6, a6, b6, d6, g6, rfl⟩ := eA _ (List.mem_of_getElem? he6)
        refine w_fa rfl ?_
        refine w_ld rfl hs6 (takeN_nth (j := 3) ht6 rfl) ?_
        refine w_mv (evs' (gsn rfl (gsn rfl (gsn rfl f_p1)))) ?_
        refine w_mv_int (evs' (gsn rfl (gsn rfl (gsn rfl f_p10)))) ?_
        refine w_ar_ix A rfl rfl (by omega) (by omega) (fun s7 o7 cs7 e7 ro7 hs7 he7 ht7 hf7 => ?_)
        obtain ⟨k7, a7, b7, d7, g7, rfl⟩ := eA _ (List.mem_of_getElem? he7)
        refine w_fa rfl ?_
        refine w_ld rfl hs7 (takeN_nth (j := 4) ht7 rfl) ?_
        refine m_name (fun n8 h8 hb_n8 kp8 nn8 hn8 => ?_)
        have nf_n8_U := U.new nn8
        have nf_n8_Z := Z.new nn8
        have nf_n8_A := A.new nn8
        have hs6 := kp8.get hs6 (A.lt _ hf6) (nF0 _ hf6)
        have hs7 := kp8.get hs7 (A.lt _ hf7) (nF0 _ hf7)
        have hb_n1 := kp8.get hb_n1 lt_n1 ni0
        have hb_n2 := kp8.get hb_n2 lt_n2 ni0
        have hb_n3 := kp8.get hb_n3 lt_n3 ni0
        have U := U.keep kp8 nF0
        have Z := Z.keep kp8 nF0
        have A := A.keep kp8 nF0
        have lt_n1 := kp8.lt lt_n1
        have lt_n2 := kp8.lt lt_n2
        have lt_n3 := kp8.lt lt_n3
        have lt_n8 : n8.num < h8.next.num := by omega
        refine w_call (clip_ok _ _ _ _ _ _ ?_)
        refine w_re_ld rfl hs7 (takeN_nth (j := 4) ht7 rfl) rfl rfl (V.beq_int _ _) ?_
        refine w_eq (v := .agg [.int .i64 _, .int .i64 _, .int .i64 _]) rfl ?_
        refine m_init hb_n8 rfl (fun h9 hq kp9 => ?_)
        have hs6 := kp9.get hs6 (A.lt _ hf6) ((nF1 nf_n8_A) _ hf6)
        have hs7 := kp9.get hs7 (A.lt _ hf7) ((nF1 nf_n8_A) _ hf7)
        have hb_n1 := kp9.get hb_n1 lt_n1 (ni1 (by omega))
        have hb_n2 := kp9.get hb_n2 lt_n2 (ni1 (by omega))
        have hb_n3 := kp9.get hb_n3 lt_n3 (ni1 (by omega))
        have U := U.keep kp9 (nF1 nf_n8_U)
        have Z := Z.keep kp9 (nF1 nf_n8_Z)
        have A := A.keep kp9 (nF1 nf_n8_A)
        have lt_n1 := kp9.lt lt_n1
        have lt_n2 := kp9.lt lt_n2
        have lt_n3 := kp9.lt lt_n3
        have lt_n8 := kp9.lt lt_n8
        have hb_n8 := hq
        refine m_st_agg hb_n8 rfl rfl rfl rfl (fun h10 hq kp10 => ?_)
        have hs6 := kp10.get hs6 (A.lt _ hf6) ((nF1 nf_n8_A) _ hf6)
        have hs7 := kp10.get hs7 (A.lt _ hf7) ((nF1 nf_n8_A) _ hf7)
        have hb_n1 := kp10.get hb_n1 lt_n1 (ni1 (by omega))
        have hb_n2 := kp10.get hb_n2 lt_n2 (ni1 (by omega))
        have hb_n3 := kp10.get hb_n3 lt_n3 (ni1 (by omega))
        have U := U.keep kp10 (nF1 nf_n8_U)
        have Z := Z.keep kp10 (nF1 nf_n8_Z)
        have A := A.keep kp10 (nF1 nf_n8_A)
        have lt_n1 := kp10.lt lt_n1
        have lt_n2 := kp10.lt lt_n2
        have lt_n3 := kp10.lt lt_n3
        have lt_n8 := kp10.lt lt_n8
        have hb_n8 := hq
        refine w_slot_ptr rfl ?_
        refine w_nil ?_
        refine w_seq ?_
        refine w_reg ?_
        refine w_mv_int (evs' (gsn rfl gse)) ?_
        refine w_gt rfl rfl (fun c3 => by omega) (fun c3 => ?_)
        refine w_mv_bool rfl ?_
        refine w_gop rfl (fun hh => nomatch hh) (fun _ => ?_)
        refine w_gop rfl (fun hh => nomatch hh) (fun _ => ?_)
        refine w_gop rfl (fun hh => nomatch hh) (fun _ => ?_)
        refine w_gcall rfl (fun hh => nomatch hh) (fun _ => ?_)
        refine w_pick rfl (fun hh => nomatch hh) (fun _ => ?_)
        refine w_mv_bool rfl ?_
        refine w_kp ?_
        refine w_nil ?_
        refine w_cond (evs' gse) (fun hh => nomatch hh) (fun _ => ?_)
        refine w_skip ?_
        refine w_reg ?_
        refine w_mv_int (evs' (gsn rfl (gsn rfl (gsn rfl (gsn rfl (gsn rfl f_p10)))))) ?_
        refine w_add rfl rfl (wr64 (by omega) (by omega)) ?_
        refine w_mv_int rfl ?_
        refine w_kp ?_
        refine w_nil ?_
        exact ⟨kk - 1, by omega, i + 1, _, _, _, _, _, _, _, _, _, _, _, _, (gsn rfl (gsn rfl (gsn rfl (gsn rfl (gsn rfl (gsn rfl f_p1)))))), (gsn rfl (gsn rfl (gsn rfl (gsn rfl (gsn rfl (gsn rfl f_p5)))))), (gsn rfl (gsn rfl (gsn rfl (gsn rfl (gsn rfl (gsn rfl f_p7)))))), (gsn rfl (gsn rfl (gsn rfl (gsn rfl gse)))), (gsn rfl (gsn rfl (gsn rfl (gsn rfl (gsn rfl (gsn rfl f_p9)))))), gse, (by omega), (by omega), (by omega), (by omega), (by omega), (by omega), (hlu), (hu), (hls), (fun y hy => by have := hle y hy; omega), hb_n1, lt_n1, hb_n2, lt_n2, hb_n3, lt_n3, U, Z, A, nf_n1_U, nf_n1_Z, nf_n1_A, nf_n2_U, nf_n2_Z, nf_n2_A, nf_n3_U, nf_n3_Z, nf_n3_A, dj_U_Z, dj_Z_U, dj_A_U, dj_A_Z⟩
      ·
        have nf_n1_S5 := fresh_nf hf5 lt_n1
        have nf_n2_S5 := fresh_nf hf5 lt_n2
        have nf_n3_S5 := fresh_nf hf5 lt_n3
        have dj_Z_S5 := fresh_dj Z.lt hf5
        have dj_S5_Z := dj_symm dj_Z_S5
        have dj_A_S5 := fresh_dj A.lt hf5
        have dj_S5_A := dj_symm dj_A_S5
        have hb_n1 := kp5.get hb_n1 lt_n1 (niC (by omega) nf_n1_U)
        have hb_n3 := kp5.get hb_n3 lt_n3 (niC (by omega) nf_n3_U)
        have Z := Z.keep kp5 (nFC nf_n2_Z dj_Z_U)
        have A := A.keep kp5 (nFC nf_n2_A dj_A_U)
        have lt_n1 := kp5.lt lt_n1
        have lt_n2 := kp5.lt lt_n2
        have lt_n3 := kp5.lt lt_n3
        have hb_n2 := hq
        have S5 := Sq
        have hr : rd (now + clipF a4 0 1000) t = (now + clipF a4 0 1000) := by unfold rd; omega
        rw [hr] at hb_n2 hx5 ⊢
        have hu : ∀ e ∈ xs5, ∃ y, e = [.int .i64 y] := fun e he => (List.mem_append.1 (List.mem_of_mem_drop (hx5 ▸ he))).elim (hu e) (fun he => ⟨_, List.mem_singleton.1 he⟩)
        have hlu : xs5.length ≤ 16 := by rw [hx5, List.length_drop]; simp; split <;> omega
        refine w_mv_int rfl ?_
        refine w_kp ?_
        refine w_nil ?_
        refine w_seq ?_
        refine w_reg ?_
        refine w_mv_int (evs' gse) ?_
        refine w_mv (evs' (gsn rfl (gsn rfl (gsn rfl f_p1)))) ?_
        refine w_mv_int (evs' (gsn rfl (gsn rfl (gsn rfl f_p10)))) ?_
        refine w_ar_ix A rfl rfl (by omega) (by omega) (fun s6 o6 cs6 e6 ro6 hs6 he6 ht6 hf6 => ?_)
        obtain ⟨k6, a6, b6, d6, g6, rfl⟩ := eA _ (List.mem_of_getElem? he6)
        refine w_fa rfl ?_
        refine w_ld rfl hs6 (takeN_nth (j := 3) ht6 rfl) ?_
        refine w_mv (evs' (gsn rfl (gsn rfl (gsn rfl f_p1)))) ?_
        refine w_mv_int (evs' (gsn rfl (gsn rfl (gsn rfl f_p10)))) ?_
        refine w_ar_ix A rfl rfl (by omega) (by omega) (fun s7 o7 cs7 e7 ro7 hs7 he7 ht7 hf7 => ?_)
        obtain ⟨k7, a7, b7, d7, g7, rfl⟩ := eA _ (List.mem_of_getElem? he7)
        refine w_fa rfl ?_
        refine w_ld rfl hs7 (takeN_nth (j := 4) ht7 rfl) ?_
        refine m_name (fun n8 h8 hb_n8 kp8 nn8 hn8 => ?_)
        have nf_n8_Z := Z.new nn8
        have nf_n8_A := A.new nn8
        have nf_n8_S5 := S5.new nn8
        have hs6 := kp8.get hs6 (A.lt _ hf6) (nF0 _ hf6)
        have hs7 := kp8.get hs7 (A.lt _ hf7) (nF0 _ hf7)
        have hb_n1 := kp8.get hb_n1 lt_n1 ni0
        have hb_n2 := kp8.get hb_n2 lt_n2 ni0
        have hb_n3 := kp8.get hb_n3 lt_n3 ni0
        have Z := Z.keep kp8 nF0
        have A := A.keep kp8 nF0
        have S5 := S5.keep kp8 nF0
        have lt_n1 := kp8.lt lt_n1
        have lt_n2 := kp8.lt lt_n2
        have lt_n3 := kp8.lt lt_n3
        have lt_n8 : n8.num < h8.next.num := by omega
        refine w_call (clip_ok _ _ _ _ _ _ ?_)
        refine w_re_ld rfl hs7 (takeN_nth (j := 4) ht7 rfl) rfl rfl (V.beq_int _ _) ?_
        refine w_eq (v := .agg [.int .i64 _, .int .i64 _, .int .i64 _]) rfl ?_
        refine m_init hb_n8 rfl (fun h9 hq kp9 => ?_)
        have hs6 := kp9.get hs6 (A.lt _ hf6) ((nF1 nf_n8_A) _ hf6)
        have hs7 := kp9.get hs7 (A.lt _ hf7) ((nF1 nf_n8_A) _ hf7)
        have hb_n1 := kp9.get hb_n1 lt_n1 (ni1 (by omega))
        have hb_n2 := kp9.get hb_n2 lt_n2 (ni1 (by omega))
        have hb_n3 := kp9.get hb_n3 lt_n3 (ni1 (by omega))
        have Z := Z.keep kp9 (nF1 nf_n8_Z)
        have A := A.keep kp9 (nF1 nf_n8_A)
        have S5 := S5.keep kp9 (nF1 nf_n8_S5)
        have lt_n1 := kp9.lt lt_n1
        have lt_n2 := kp9.lt lt_n2
        have lt_n3 := kp9.lt lt_n3
        have lt_n8 := kp9.lt lt_n8
        have hb_n8 := hq
        refine m_st_agg hb_n8 rfl rfl rfl rfl (fun h10 hq kp10 => ?_)
        have hs6 := kp10.get hs6 (A.lt _ hf6) ((nF1 nf_n8_A) _ hf6)
        have hs7 := kp10.get hs7 (A.lt _ hf7) ((nF1 nf_n8_A) _ hf7)
        have hb_n1 := kp10.get hb_n1 lt_n1 (ni1 (by omega))
        have hb_n2 := kp10.get hb_n2 lt_n2 (ni1 (by omega))
        have hb_n3 := kp10.get hb_n3 lt_n3 (ni1 (by omega))
        have Z := Z.keep kp10 (nF1 nf_n8_Z)
        have A := A.keep kp10 (nF1 nf_n8_A)
        have S5 := S5.keep kp10 (nF1 nf_n8_S5)
        have lt_n1 := kp10.lt lt_n1
        have lt_n2 := kp10.lt lt_n2
        have lt_n3 := kp10.lt lt_n3
        have lt_n8 := kp10.lt lt_n8
        have hb_n8 := hq
        refine w_slot_ptr rfl ?_
        refine w_nil ?_
        refine w_seq ?_
        refine w_reg ?_
        refine w_mv_int (evs' (gsn rfl gse)) ?_
        refine w_gt rfl rfl (fun c4 => ?_) (fun c4 => by omega)
        refine w_mv_bool rfl ?_
        refine w_gop rfl (fun _ => ?_) (fun hh => nomatch hh)
        refine w_mv_ptr (evs' (gsn rfl (gsn rfl (gsn rfl (gsn rfl f_p7))))) ?_
        refine w_gop rfl (fun _ => ?_) (fun hh => nomatch hh)
        refine w_ldn (evs' gse) hb_n8 rfl ?_
        refine w_gop rfl (fun _ => ?_) (fun hh => nomatch hh)
        refine w_mv_int (evs' (gsn rfl (gsn rfl gse))) ?_
        refine w_gcall rfl (fun _ => ?_) (fun hh => nomatch hh)
        refine w_call (take_ok _ _ _ n2 _ _ _ _ _ _ _ _ _ _ _ _ _ hb_n2 S5 Z nf_n2_S5 nf_n2_Z dj_S5_Z dj_Z_S5 lt_n2 (fun e he => hu e he) (by omega) hls (by omega) (by omega) (by omega) (fun h11 t11 vl11 F11 le11 hq Sq Zq kp11 hf11 hl11 hm11 => ?_))
        have nf_n1_Z11 : n1 ∉ F11 := fun hh => (hf11 _ hh).elim (fun q => nf_n1_Z q) (fun q => by omega)
        have nf_n2_Z11 : n2 ∉ F11 := fun hh => (hf11 _ hh).elim (fun q => nf_n2_Z q) (fun q => by omega)
        have nf_n3_Z11 : n3 ∉ F11 := fun hh => (hf11 _ hh).elim (fun q => nf_n3_Z q) (fun q => by omega)
        have nf_n8_Z11 : n8 ∉ F11 := fun hh => (hf11 _ hh).elim (fun q => nf_n8_Z q) (fun q => by omega)
        have dj_A_Z11 : ∀ x ∈ _, x ∉ F11 := fun x hx hh => (hf11 _ hh).elim (fun q => dj_A_Z x hx q) (fun q => by have := A.lt x hx; omega)
        have dj_Z11_A := dj_symm dj_A_Z11
        have dj_S5_Z11 : ∀ x ∈ _, x ∉ F11 := fun x hx hh => (hf11 _ hh).elim (fun q => dj_S5_Z x hx q) (fun q => by have := S5.lt x hx; omega)
        have dj_Z11_S5 := dj_symm dj_S5_Z11
        have hb_n1 := kp11.get hb_n1 lt_n1 (ni1 (by omega))
        have hb_n3 := kp11.get hb_n3 lt_n3 (ni1 (by omega))
        have hb_n8 := kp11.get hb_n8 lt_n8 (ni1 (by omega))
        have A := A.keep kp11 (nF1 nf_n2_A)
        have lt_n1 := kp11.lt lt_n1
        have lt_n2 := kp11.lt lt_n2
        have lt_n3 := kp11.lt lt_n3
        have lt_n8 := kp11.lt lt_n8
        have hb_n2 := hq
        have S5 := Sq
        have Z11 := Zq
        have hr2 : rd (now + clipF a4 0 1000) (now + clipF a4 0 1000) = (now + clipF a4 0 1000) := by unfold rd; omega
        rw [hr2] at hb_n2
        have hls : le11.length ≤ 16 := hl11
        have hln := holdF_range (n := lenF g7) (ppm := ppm)
        have hlf : lenF g7 ≤ 1073741824 ∧ 0 ≤ lenF g7 := by unfold lenF; split <;> omega
        have hlm : lim (lenF g7) 1099511627776 ≤ 1073741824 := by unfold lim; omega
        have hle : ∀ y ∈ le11, y.2 ≤ (now + clipF a4 0 1000) + 1073741824 := fun y hy => (hm11 y hy).elim (fun q => by have := hle y q; omega) (fun q => by rw [q.1]; show (now + clipF a4 0 1000) + 1 - 1 + _ ≤ _; omega)
        cases t11
        ·
          refine w_pick rfl (fun _ => ?_) (fun hh => nomatch hh)
          refine w_mv_bool rfl ?_
          refine w_kp ?_
          refine w_nil ?_
          refine w_cond (evs' gse) (fun hh => nomatch hh) (fun _ => ?_)
          refine w_skip ?_
          refine w_reg ?_
          refine w_mv_int (evs' (gsn rfl (gsn rfl (gsn rfl (gsn rfl (gsn rfl f_p10)))))) ?_
          refine w_add rfl rfl (wr64 (by omega) (by omega)) ?_
          refine w_mv_int rfl ?_
          refine w_kp ?_
          refine w_nil ?_
          exact ⟨kk - 1, by omega, i + 1, _, _, _, _, _, _, _, _, _, _, _, _, (gsn rfl (gsn rfl (gsn rfl (gsn rfl (gsn rfl (gsn rfl f_p1)))))), (gsn rfl (gsn rfl (gsn rfl (gsn rfl (gsn rfl (gsn rfl f_p5)))))), (gsn rfl (gsn rfl (gsn rfl (gsn rfl (gsn rfl (gsn rfl f_p7)))))), (gsn rfl (gsn rfl (gsn rfl (gsn rfl gse)))), (gsn rfl (gsn rfl (gsn rfl (gsn rfl (gsn rfl (gsn rfl f_p9)))))), gse, (by omega), (by omega), (by omega), (by omega), (by omega), (by omega), (hlu), (hu), (hls), (fun y hy => by have := hle y hy; omega), hb_n1, lt_n1, hb_n2, lt_n2, hb_n3, lt_n3, S5, Z11, A, nf_n1_S5, nf_n1_Z11, nf_n1_A, nf_n2_S5, nf_n2_Z11, nf_n2_A, nf_n3_S5, nf_n3_Z11, nf_n3_A, dj_S5_Z11, dj_Z11_S5, dj_A_S5, dj_A_Z11⟩
        ·
          refine w_pick rfl (fun _ => ?_) (fun hh => nomatch hh)
          refine w_mv_bool rfl ?_
          refine w_kp ?_
          refine w_nil ?_
          refine w_cond (evs' gse) (fun _ => ?_) (fun hh => nomatch hh)
          refine w_reg ?_
          refine w_ldn (evs' (gsn rfl gse)) hb_n8 rfl ?_
          refine m_st_agg hb_n3 rfl (evs' (gsn rfl (gsn rfl (gsn rfl (gsn rfl (gsn rfl f_p9)))))) rfl rfl (fun h12 hq kp12 => ?_)
          have hb_n1 := kp12.get hb_n1 lt_n1 (ni1 (by omega))
          have hb_n2 := kp12.get hb_n2 lt_n2 (ni1 (by omega))
          have hb_n8 := kp12.get hb_n8 lt_n8 (ni1 (by omega))
          have A := A.keep kp12 (nF1 nf_n3_A)
          have S5 := S5.keep kp12 (nF1 nf_n3_S5)
          have Z11 := Z11.keep kp12 (nF1 nf_n3_Z11)
          have lt_n1 := kp12.lt lt_n1
          have lt_n2 := kp12.lt lt_n2
          have lt_n3 := kp12.lt lt_n3
          have lt_n8 := kp12.lt lt_n8
          have hb_n3 := hq
          refine w_nil ?_
          refine w_reg ?_
          refine w_mv_int (evs' (gsn rfl (gsn rfl (gsn rfl (gsn rfl (gsn rfl f_p10)))))) ?_
          refine w_add rfl rfl (wr64 (by omega) (by omega)) ?_
          refine w_mv_int rfl ?_
          refine w_kp ?_
          refine w_nil ?_
          exact ⟨kk - 1, by omega, i + 1, _, _, _, _, _, _, _, _, _, _, _, _, (gsn rfl (gsn rfl (gsn rfl (gsn rfl (gsn rfl (gsn rfl f_p1)))))), (gsn rfl (gsn rfl (gsn rfl (gsn rfl (gsn rfl (gsn rfl f_p5)))))), (gsn rfl (gsn rfl (gsn rfl (gsn rfl (gsn rfl (gsn rfl f_p7)))))), (gsn rfl (gsn rfl (gsn rfl (gsn rfl gse)))), (gsn rfl (gsn rfl (gsn rfl (gsn rfl (gsn rfl (gsn rfl f_p9)))))), gse, (by omega), (by omega), (by omega), (by omega), (by omega), (by omega), (hlu), (hu), (hls), (fun y hy => by have := hle y hy; omega), hb_n1, lt_n1, hb_n2, lt_n2, hb_n3, lt_n3, S5, Z11, A, nf_n1_S5, nf_n1_Z11, nf_n1_A, nf_n2_S5, nf_n2_Z11, nf_n2_A, nf_n3_S5, nf_n3_Z11, nf_n3_A, dj_S5_Z11, dj_Z11_S5, dj_A_S5, dj_A_Z11⟩
    ·
      refine w_kp ?_
      refine w_nil ?_
      refine w_cond (evs' gse) (fun hh => nomatch hh) (fun _ => ?_)
      refine w_exit ?_
      refine w_seq ?_
      refine w_reg ?_
      refine w_ixarr (evs' (gsn rfl f_p5)) rfl rfl ?_
      refine w_ld rfl hb_n1 rfl ?_
      refine w_ixarr (evs' (gsn rfl f_p5)) rfl rfl ?_
      refine w_ld rfl hb_n1 rfl ?_
      refine w_mn2 rfl rfl ?_
      refine w_i2i rfl (wr64 (by omega) (by omega)) ?_
      refine w_ixarr (evs' (gsn rfl f_p5)) rfl rfl ?_
      refine w_ld rfl hb_n1 rfl ?_
      refine w_ixarr (evs' (gsn rfl f_p5)) rfl rfl ?_
      refine w_ld rfl hb_n1 rfl ?_
      refine w_mx2 rfl rfl ?_
      refine w_i2i rfl (wr64 (by omega) (by omega)) ?_
      refine w_mv_int rfl ?_
      refine w_mv_int rfl ?_
      refine w_slot_int rfl ?_
      refine w_slot_int rfl ?_
      refine w_nil ?_
      refine w_seq ?_
      refine w_reg ?_
      refine w_mv_ptr (evs' (gsn rfl (gsn rfl (gsn rfl f_p7)))) ?_
      refine w_mv_int (evs' (gsn rfl (gsn rfl (gsn rfl f_p8)))) ?_
      refine w_mv_int (evs' gse) ?_
      refine w_call (until_ok _ _ _ n2 _ _ _ _ _ _ _ _ _ hb_n2 Z nf_n2_Z lt_n2 (by omega) (by omega) (fun h4 hq Sq kp4 => ?_))
      have hb_n1 := kp4.get hb_n1 lt_n1 (ni1 (by omega))
      have hb_n3 := kp4.get hb_n3 lt_n3 (ni1 (by omega))
      have U := U.keep kp4 (nF1 nf_n2_U)
      have A := A.keep kp4 (nF1 nf_n2_A)
      have lt_n1 := kp4.lt lt_n1
      have lt_n2 := kp4.lt lt_n2
      have lt_n3 := kp4.lt lt_n3
      have hr : rd now t = now := by unfold rd; omega
      rw [hr] at hq ⊢
      have hb_n2 := hq
      have Z := Sq
      refine w_mv_ptr (evs' (gsn rfl (gsn rfl (gsn rfl f_p7)))) ?_
      refine w_mv_int (evs' (gsn rfl (gsn rfl (gsn rfl f_p8)))) ?_
      refine w_mv_int (evs' (gsn rfl gse)) ?_
      refine w_call (until_ok _ _ _ n2 _ _ _ _ _ _ _ _ _ hb_n2 Z nf_n2_Z lt_n2 (by omega) (by omega) (fun h5 hq Sq kp5 => ?_))
      have hb_n1 := kp5.get hb_n1 lt_n1 (ni1 (by omega))
      have hb_n3 := kp5.get hb_n3 lt_n3 (ni1 (by omega))
      have U := U.keep kp5 (nF1 nf_n2_U)
      have A := A.keep kp5 (nF1 nf_n2_A)
      have lt_n1 := kp5.lt lt_n1
      have lt_n2 := kp5.lt lt_n2
      have lt_n3 := kp5.lt lt_n3
      have hr : rd now now = now := by unfold rd; omega
      rw [hr] at hq ⊢
      have hb_n2 := hq
      have Z := Sq
      have hrA := untilF_range (a := (max (min u0 u1) 0)) (out := now) (lo := now) (hi := now + 1073741824) lea (by omega) (by omega) hle
      have hrB := untilF_range (a := (max (max u0 u1) 0)) (out := now) (lo := now) (hi := now + 1073741824) lea (by omega) (by omega) hle
      have hAB : (untilF (max (min u0 u1) 0) now lea) ≤ (untilF (max (max u0 u1) 0) now lea) := untilF_mono lea _ (by omega) (by omega)
      refine w_mv_int rfl ?_
      refine w_kp ?_
      refine w_mv_int rfl ?_
      refine w_kp ?_
      refine w_nil ?_
      refine w_seq ?_
      refine w_seq ?_
      refine w_reg ?_
      refine w_mv_int (evs' (gsn rfl gse)) ?_
      refine w_mv_int (evs' gse) ?_
      refine w_gt rfl rfl (fun c5 => by omega) (fun c5 => ?_)
      refine w_mv_bool rfl ?_
      refine w_gop rfl (fun _ => ?_) (fun hh => nomatch hh)
      refine w_mv_int (evs' (gsn rfl gse)) ?_
      refine w_gop rfl (fun _ => ?_) (fun hh => nomatch hh)
      refine w_mv_int (evs' (gsn rfl (gsn rfl (gsn rfl (gsn rfl (gsn rfl f_p8)))))) ?_
      refine w_gop rfl (fun _ => ?_) (fun hh => nomatch hh)
      refine w_lt rfl rfl (fun c6 => by omega) (fun c6 => ?_)
      refine w_pick rfl (fun hh => nomatch hh) (fun _ => ?_)
      refine w_mv_bool rfl ?_
      refine w_mv_bool rfl ?_
      refine w_gop rfl (fun _ => ?_) (fun hh => nomatch hh)
      refine w_mv_ptr (evs' (gsn rfl (gsn rfl (gsn rfl (gsn rfl (gsn rfl f_p7)))))) ?_
      refine w_gop rfl (fun _ => ?_) (fun hh => nomatch hh)
      refine w_mv_int (evs' (gsn rfl (gsn rfl (gsn rfl (gsn rfl (gsn rfl f_p8)))))) ?_
      refine w_gop rfl (fun _ => ?_) (fun hh => nomatch hh)
      refine w_mv_int (evs' (gsn rfl (gsn rfl gse))) ?_
      refine w_gcall rfl (fun _ => ?_) (fun hh => nomatch hh)
      refine w_call (holds_ok _ _ _ n2 _ _ _ _ _ _ _ _ _ hb_n2 Z nf_n2_Z lt_n2 (by first | omega | simp) (by omega) (fun h6 t6 ht6 hq Sq kp6 => ?_))
      have hb_n1 := kp6.get hb_n1 lt_n1 (ni1 (by omega))
      have hb_n3 := kp6.get hb_n3 lt_n3 (ni1 (by omega))
      have U := U.keep kp6 (nF1 nf_n2_U)
      have A := A.keep kp6 (nF1 nf_n2_A)
      have lt_n1 := kp6.lt lt_n1
      have lt_n2 := kp6.lt lt_n2
      have lt_n3 := kp6.lt lt_n3
      have hr : rd now now = now := by unfold rd; omega
      rw [hr] at hq ht6
      have hu6 : untilF (max (min u0 u1) 0) now lea = max now (untilF (max (min u0 u1) 0) now lea) := untilF_up lea (by omega)
      rw [hu6] at ht6
      have hb_n2 := hq
      have Z := Sq
      cases t6
      ·
        have ht6 := of_decide_eq_false ht6.symm
        refine w_gop rfl (fun _ => ?_) (fun hh => nomatch hh)
        refine w_mv_int (evs' (gsn rfl gse)) ?_
        refine w_gop rfl (fun _ => ?_) (fun hh => nomatch hh)
        refine w_mv_int (evs' (gsn rfl (gsn rfl (gsn rfl (gsn rfl (gsn rfl f_p8)))))) ?_
        refine w_gop rfl (fun _ => ?_) (fun hh => nomatch hh)
        refine w_gt rfl rfl (fun c7 => by omega) (fun c7 => ?_)
        refine w_gop rfl (fun _ => ?_) (fun hh => nomatch hh)
        refine w_eqv (t' := false) rfl rfl rfl rfl ?_
        refine w_pick rfl (fun hh => nomatch hh) (fun _ => ?_)
        refine w_mv_bool rfl ?_
        refine w_mv_bool rfl ?_
        refine w_gop rfl (fun _ => ?_) (fun hh => nomatch hh)
        refine w_mv_ptr (evs' (gsn rfl (gsn rfl (gsn rfl (gsn rfl (gsn rfl f_p7)))))) ?_
        refine w_gop rfl (fun _ => ?_) (fun hh => nomatch hh)
        refine w_mv_int (evs' (gsn rfl (gsn rfl (gsn rfl (gsn rfl (gsn rfl f_p8)))))) ?_
        refine w_gop rfl (fun _ => ?_) (fun hh => nomatch hh)
        refine w_mv_int (evs' (gsn rfl (gsn rfl (gsn rfl gse)))) ?_
        refine w_gcall rfl (fun _ => ?_) (fun hh => nomatch hh)
        refine w_call (holds_ok _ _ _ n2 _ _ _ _ _ _ _ _ _ hb_n2 Z nf_n2_Z lt_n2 (by first | omega | simp) (by omega) (fun h7 t7 ht7 hq Sq kp7 => ?_))
        have hb_n1 := kp7.get hb_n1 lt_n1 (ni1 (by omega))
        have hb_n3 := kp7.get hb_n3 lt_n3 (ni1 (by omega))
        have U := U.keep kp7 (nF1 nf_n2_U)
        have A := A.keep kp7 (nF1 nf_n2_A)
        have lt_n1 := kp7.lt lt_n1
        have lt_n2 := kp7.lt lt_n2
        have lt_n3 := kp7.lt lt_n3
        have hr : rd now now = now := by unfold rd; omega
        rw [hr] at hq ht7
        have hu7 : untilF (max (max u0 u1) 0) now lea = max now (untilF (max (max u0 u1) 0) now lea) := untilF_up lea (by omega)
        rw [hu7] at ht7
        have hb_n2 := hq
        have Z := Sq
        cases t7
        ·
          have ht7 := of_decide_eq_false ht7.symm
          refine w_gop rfl (fun _ => ?_) (fun hh => nomatch hh)
          refine w_mv_int (evs' gse) ?_
          refine w_gop rfl (fun _ => ?_) (fun hh => nomatch hh)
          refine w_mv_int (evs' (gsn rfl (gsn rfl (gsn rfl (gsn rfl (gsn rfl f_p8)))))) ?_
          refine w_gop rfl (fun _ => ?_) (fun hh => nomatch hh)
          refine w_gt rfl rfl (fun c8 => by omega) (fun c8 => ?_)
          refine w_gop rfl (fun _ => ?_) (fun hh => nomatch hh)
          refine w_eqv (t' := false) rfl rfl rfl rfl ?_
          refine w_pick rfl (fun hh => nomatch hh) (fun _ => ?_)
          refine w_mv_bool rfl ?_
          refine w_kp ?_
          refine w_nil ?_
          refine w_cond (evs' gse) (fun hh => nomatch hh) (fun _ => ?_)
          refine w_skip ?_
          refine w_seq ?_
          refine w_seq ?_
          refine w_reg ?_
          refine w_mv_int (evs' (gsn rfl (gsn rfl gse))) ?_
          refine w_mv_int (evs' (gsn rfl (gsn rfl (gsn rfl (gsn rfl (gsn rfl (gsn rfl f_p8))))))) ?_
          refine w_gt rfl rfl (fun c9 => ?_) (fun c9 => ?_)
          ·
            refine w_mv_bool rfl ?_
            refine w_gop rfl (fun _ => ?_) (fun hh => nomatch hh)
            refine w_mv_ptr (evs' (gsn rfl (gsn rfl (gsn rfl (gsn rfl (gsn rfl (gsn rfl f_p7))))))) ?_
            refine w_gop rfl (fun _ => ?_) (fun hh => nomatch hh)
            refine w_mv_int (evs' (gsn rfl (gsn rfl gse))) ?_
            refine w_gop rfl (fun _ => ?_) (fun hh => nomatch hh)
            refine w_sub rfl rfl (wr64 (by omega) (by omega)) ?_
            refine w_gop rfl (fun _ => ?_) (fun hh => nomatch hh)
            refine w_mv_int (evs' (gsn rfl (gsn rfl (gsn rfl gse)))) ?_
            refine w_gcall rfl (fun _ => ?_) (fun hh => nomatch hh)
            refine w_call (holds_ok _ _ _ n2 _ _ _ _ _ _ _ _ _ hb_n2 Z nf_n2_Z lt_n2 (by first | omega | simp) (by omega) (fun h8 t8 ht8 hq Sq kp8 => ?_))
            have hb_n1 := kp8.get hb_n1 lt_n1 (ni1 (by omega))
            have hb_n3 := kp8.get hb_n3 lt_n3 (ni1 (by omega))
            have U := U.keep kp8 (nF1 nf_n2_U)
            have A := A.keep kp8 (nF1 nf_n2_A)
            have lt_n1 := kp8.lt lt_n1
            have lt_n2 := kp8.lt lt_n2
            have lt_n3 := kp8.lt lt_n3
            have hr : rd ((untilF (max (min u0 u1) 0) now lea) - 1) now = ((untilF (max (min u0 u1) 0) now lea) - 1) := by unfold rd; omega
            rw [hr] at hq ht8
            have hu8 : untilF (max (min u0 u1) 0) ((untilF (max (min u0 u1) 0) now lea) - 1) lea = max ((untilF (max (min u0 u1) 0) now lea) - 1) (untilF (max (min u0 u1) 0) now lea) := untilF_up lea (by omega)
            rw [hu8] at ht8
            have hb_n2 := hq
            have Z := Sq
            obtain rfl : t8 = true := by rw [ht8]; exact decide_eq_true (by omega)
            refine w_gop rfl (fun _ => ?_) (fun hh => nomatch hh)
            refine w_not rfl ?_
            refine w_pick rfl (fun _ => ?_) (fun hh => nomatch hh)
            refine w_mv_bool rfl ?_
            refine w_mv_bool rfl ?_
            refine w_gop rfl (fun _ => ?_) (fun hh => nomatch hh)
            refine w_mv_ptr (evs' (gsn rfl (gsn rfl (gsn rfl (gsn rfl (gsn rfl (gsn rfl f_p7))))))) ?_
            refine w_gop rfl (fun _ => ?_) (fun hh => nomatch hh)
            refine w_mv_int (evs' (gsn rfl (gsn rfl gse))) ?_
            refine w_gop rfl (fun _ => ?_) (fun hh => nomatch hh)
            refine w_mv_int (evs' (gsn rfl (gsn rfl (gsn rfl gse)))) ?_
            refine w_gcall rfl (fun _ => ?_) (fun hh => nomatch hh)
            refine w_call (holds_ok _ _ _ n2 _ _ _ _ _ _ _ _ _ hb_n2 Z nf_n2_Z lt_n2 (by first | omega | simp) (by omega) (fun h9 t9 ht9 hq Sq kp9 => ?_))
            have hb_n1 := kp9.get hb_n1 lt_n1 (ni1 (by omega))
            have hb_n3 := kp9.get hb_n3 lt_n3 (ni1 (by omega))
            have U := U.keep kp9 (nF1 nf_n2_U)
            have A := A.keep kp9 (nF1 nf_n2_A)
            have lt_n1 := kp9.lt lt_n1
            have lt_n2 := kp9.lt lt_n2
            have lt_n3 := kp9.lt lt_n3
            have hr : rd (untilF (max (min u0 u1) 0) now lea) ((untilF (max (min u0 u1) 0) now lea) - 1) = (untilF (max (min u0 u1) 0) now lea) := by unfold rd; omega
            rw [hr] at hq ht9
            have hu9 : untilF (max (min u0 u1) 0) (untilF (max (min u0 u1) 0) now lea) lea = max (untilF (max (min u0 u1) 0) now lea) (untilF (max (min u0 u1) 0) now lea) := untilF_up lea (by omega)
            rw [hu9] at ht9
            have hb_n2 := hq
            have Z := Sq
            obtain rfl : t9 = false := by rw [ht9]; exact decide_eq_false (by omega)
            refine w_pick rfl (fun hh => nomatch hh) (fun _ => ?_)
            refine w_mv_bool rfl ?_
            refine w_mv_bool rfl ?_
            refine w_gop rfl (fun _ => ?_) (fun hh => nomatch hh)
            refine w_mv_int (evs' (gsn rfl gse)) ?_
            refine w_gop rfl (fun _ => ?_) (fun hh => nomatch hh)
            refine w_mv_int (evs' (gsn rfl (gsn rfl gse))) ?_
            refine w_gop rfl (fun _ => ?_) (fun hh => nomatch hh)
            refine w_gt rfl rfl (fun c10 => ?_) (fun c10 => ?_)
            ·
              refine w_gop rfl (fun _ => ?_) (fun hh => nomatch hh)
              refine w_mv_bool rfl ?_
              refine w_gop rfl (fun _ => ?_) (fun hh => nomatch hh)
              refine w_mv_ptr (evs' (gsn rfl (gsn rfl (gsn rfl (gsn rfl (gsn rfl (gsn rfl f_p7))))))) ?_
              refine w_gop rfl (fun _ => ?_) (fun hh => nomatch hh)
              refine w_mv_int (evs' (gsn rfl gse)) ?_
              refine w_gop rfl (fun _ => ?_) (fun hh => nomatch hh)
              refine w_sub rfl rfl (wr64 (by omega) (by omega)) ?_
              refine w_gop rfl (fun _ => ?_) (fun hh => nomatch hh)
              refine w_mv_int (evs' (gsn rfl (gsn rfl (gsn rfl (gsn rfl gse))))) ?_
              refine w_gcall rfl (fun _ => ?_) (fun hh => nomatch hh)
              refine w_call (holds_ok _ _ _ n2 _ _ _ _ _ _ _ _ _ hb_n2 Z nf_n2_Z lt_n2 (by first | omega | simp) (by omega) (fun h10 t10 ht10 hq Sq kp10 => ?_))
              have hb_n1 := kp10.get hb_n1 lt_n1 (ni1 (by omega))
              have hb_n3 := kp10.get hb_n3 lt_n3 (ni1 (by omega))
              have U := U.keep kp10 (nF1 nf_n2_U)
              have A := A.keep kp10 (nF1 nf_n2_A)
              have lt_n1 := kp10.lt lt_n1
              have lt_n2 := kp10.lt lt_n2
              have lt_n3 := kp10.lt lt_n3
              have hr : rd ((untilF (max (max u0 u1) 0) now lea) - 1) (untilF (max (min u0 u1) 0) now lea) = ((untilF (max (max u0 u1) 0) now lea) - 1) := by unfold rd; omega
              rw [hr] at hq ht10
              have hu10 : untilF (max (max u0 u1) 0) ((untilF (max (max u0 u1) 0) now lea) - 1) lea = max ((untilF (max (max u0 u1) 0) now lea) - 1) (untilF (max (max u0 u1) 0) now lea) := untilF_up lea (by omega)
              rw [hu10] at ht10
              have hb_n2 := hq
              have Z := Sq
              obtain rfl : t10 = true := by rw [ht10]; exact decide_eq_true (by omega)
              refine w_gop rfl (fun _ => ?_) (fun hh => nomatch hh)
              refine w_not rfl ?_
              refine w_gop rfl (fun _ => ?_) (fun hh => nomatch hh)
              refine w_pick rfl (fun _ => ?_) (fun hh => nomatch hh)
              refine w_mv_bool rfl ?_
              refine w_pick rfl (fun hh => nomatch hh) (fun _ => ?_)
              refine w_mv_bool rfl ?_
              refine w_mv_bool rfl ?_
              refine w_gop rfl (fun _ => ?_) (fun hh => nomatch hh)
              refine w_mv_ptr (evs' (gsn rfl (gsn rfl (gsn rfl (gsn rfl (gsn rfl (gsn rfl f_p7))))))) ?_
              refine w_gop rfl (fun _ => ?_) (fun hh => nomatch hh)
              refine w_mv_int (evs' (gsn rfl gse)) ?_
              refine w_gop rfl (fun _ => ?_) (fun hh => nomatch hh)
              refine w_mv_int (evs' (gsn rfl (gsn rfl (gsn rfl (gsn rfl gse))))) ?_
              refine w_gcall rfl (fun _ => ?_) (fun hh => nomatch hh)
              refine w_call (holds_ok _ _ _ n2 _ _ _ _ _ _ _ _ _ hb_n2 Z nf_n2_Z lt_n2 (by first | omega | simp) (by omega) (fun h11 t11 ht11 hq Sq kp11 => ?_))
              have hb_n1 := kp11.get hb_n1 lt_n1 (ni1 (by omega))
              have hb_n3 := kp11.get hb_n3 lt_n3 (ni1 (by omega))
              have U := U.keep kp11 (nF1 nf_n2_U)
              have A := A.keep kp11 (nF1 nf_n2_A)
              have lt_n1 := kp11.lt lt_n1
              have lt_n2 := kp11.lt lt_n2
              have lt_n3 := kp11.lt lt_n3
              have hr : rd (untilF (max (max u0 u1) 0) now lea) ((untilF (max (max u0 u1) 0) now lea) - 1) = (untilF (max (max u0 u1) 0) now lea) := by unfold rd; omega
              rw [hr] at hq ht11
              have hu11 : untilF (max (max u0 u1) 0) (untilF (max (max u0 u1) 0) now lea) lea = max (untilF (max (max u0 u1) 0) now lea) (untilF (max (max u0 u1) 0) now lea) := untilF_up lea (by omega)
              rw [hu11] at ht11
              have hb_n2 := hq
              have Z := Sq
              obtain rfl : t11 = false := by rw [ht11]; exact decide_eq_false (by omega)
              refine w_pick rfl (fun hh => nomatch hh) (fun _ => ?_)
              refine w_mv_bool rfl ?_
              refine w_kp ?_
              refine w_nil ?_
              refine w_cond (evs' gse) (fun hh => nomatch hh) (fun _ => ?_)
              refine w_skip ?_
              refine w_seq ?_
              refine w_reg ?_
              refine w_mv_ptr (evs' (gsn rfl (gsn rfl (gsn rfl (gsn rfl (gsn rfl (gsn rfl (gsn rfl f_p7)))))))) ?_
              refine w_call (drop_ok _ _ _ n2 _ _ _ _ _ hb_n2 lt_n2 U.flat Z.flat (fun h12 hq kp12 => ?_))
              have hb_n1 := kp12.get hb_n1 lt_n1 (ni1 (by omega))
              have hb_n3 := kp12.get hb_n3 lt_n3 (ni1 (by omega))
              have U := U.keep kp12 (nF1 nf_n2_U)
              have Z := Z.keep kp12 (nF1 nf_n2_Z)
              have A := A.keep kp12 (nF1 nf_n2_A)
              have lt_n1 := kp12.lt lt_n1
              have lt_n2 := kp12.lt lt_n2
              have lt_n3 := kp12.lt lt_n3
              have hb_n2 := hq
              have E1 := Sl.nilsl 1 h12
              have E2 : Sl 2 h12 .nilsl [] (([] : List (Int × Int)).map le) := Sl.nilsl 2 h12
              have nf_n1_E1 : n1 ∉ ([] : List P) := ni0
              have nf_n1_E2 : n1 ∉ ([] : List P) := ni0
              have nf_n2_E1 : n2 ∉ ([] : List P) := ni0
              have nf_n2_E2 : n2 ∉ ([] : List P) := ni0
              have nf_n3_E1 : n3 ∉ ([] : List P) := ni0
              have nf_n3_E2 : n3 ∉ ([] : List P) := ni0
              have dj_E1_E2 : ∀ x ∈ ([] : List P), x ∉ ([] : List P) := nF0
              have dj_E2_E1 : ∀ x ∈ ([] : List P), x ∉ ([] : List P) := nF0
              refine w_nil ?_
              refine w_seq ?_
              refine w_reg ?_
              refine w_mv_ptr (evs' (gsn rfl (gsn rfl (gsn rfl (gsn rfl (gsn rfl (gsn rfl (gsn rfl f_p7)))))))) ?_
              refine w_call (holds_ok _ _ _ n2 _ _ _ _ _ _ _ _ _ hb_n2 E2 nf_n2_E2 lt_n2 (by first | omega | simp) (by omega) (fun h13 t13 ht13 hq Sq kp13 => ?_))
              have hb_n1 := kp13.get hb_n1 lt_n1 (ni1 (by omega))
              have hb_n3 := kp13.get hb_n3 lt_n3 (ni1 (by omega))
              have E1 := E1.keep kp13 (nF1 nf_n2_E1)
              have lt_n1 := kp13.lt lt_n1
              have lt_n2 := kp13.lt lt_n2
              have lt_n3 := kp13.lt lt_n3
              have hr : rd 0 (untilF (max (max u0 u1) 0) now lea) = (untilF (max (max u0 u1) 0) now lea) := by unfold rd; omega
              rw [hr] at hq ht13
              have hb_n2 := hq
              have E2 := Sq
              obtain rfl : t13 = false := by rw [ht13]; exact decide_eq_false (by simp [untilF])
              refine w_not rfl ?_
              refine w_mv_bool rfl ?_
              refine w_gop rfl (fun _ => ?_) (fun hh => nomatch hh)
              refine w_mv_ptr (evs' (gsn rfl (gsn rfl (gsn rfl (gsn rfl (gsn rfl (gsn rfl (gsn rfl f_p7)))))))) ?_
              refine w_gop rfl (fun _ => ?_) (fun hh => nomatch hh)
              refine w_ldn (evs' (gsn rfl (gsn rfl (gsn rfl (gsn rfl (gsn rfl (gsn rfl (gsn rfl f_p9)))))))) hb_n3 rfl ?_
              refine w_gcall rfl (fun _ => ?_) (fun hh => nomatch hh)
              refine w_call (take_unknown _ _ _ n2 _ _ _ _ _ _ _ _ _ _ _ hb_n2 E1 nf_n2_E1 lt_n2 (by first | omega | simp) (by omega) (fun e he => nomatch he) (fun h14 hq Sq kp14 => ?_))
              have hb_n1 := kp14.get hb_n1 lt_n1 (ni1 (by omega))
              have hb_n3 := kp14.get hb_n3 lt_n3 (ni1 (by omega))
              have E2 := E2.keep kp14 (nF1 nf_n2_E2)
              have lt_n1 := kp14.lt lt_n1
              have lt_n2 := kp14.lt lt_n2
              have lt_n3 := kp14.lt lt_n3
              have hb_n2 := hq
              have E1 := Sq
              have hr : rd 0 (untilF (max (max u0 u1) 0) now lea) = (untilF (max (max u0 u1) 0) now lea) := by unfold rd; omega
              rw [hr] at hb_n2
              refine w_gop rfl (fun _ => ?_) (fun hh => nomatch hh)
              refine w_not rfl ?_
              refine w_pick rfl (fun _ => ?_) (fun hh => nomatch hh)
              refine w_mv_bool rfl ?_
              refine w_mv_bool rfl ?_
              refine w_gop rfl (fun _ => ?_) (fun hh => nomatch hh)
              refine w_mv_ptr (evs' (gsn rfl (gsn rfl (gsn rfl (gsn rfl (gsn rfl (gsn rfl (gsn rfl f_p7)))))))) ?_
              refine w_gcall rfl (fun _ => ?_) (fun hh => nomatch hh)
              refine w_call (until_ok _ _ _ n2 _ _ _ _ _ _ _ _ _ hb_n2 E2 nf_n2_E2 lt_n2 (by simp) (by omega) (fun h15 hq Sq kp15 => ?_))
              have hb_n1 := kp15.get hb_n1 lt_n1 (ni1 (by omega))
              have hb_n3 := kp15.get hb_n3 lt_n3 (ni1 (by omega))
              have E1 := E1.keep kp15 (nF1 nf_n2_E1)
              have lt_n1 := kp15.lt lt_n1
              have lt_n2 := kp15.lt lt_n2
              have lt_n3 := kp15.lt lt_n3
              have hr : rd 0 (untilF (max (max u0 u1) 0) now lea) = (untilF (max (max u0 u1) 0) now lea) := by unfold rd; omega
              rw [hr] at hq ⊢
              have hu9 : untilF (max 1073741824 0) (untilF (max (max u0 u1) 0) now lea) [] = (untilF (max (max u0 u1) 0) now lea) := rfl
              rw [hu9]
              have hb_n2 := hq
              have E2 := Sq
              refine w_gop rfl (fun _ => ?_) (fun hh => nomatch hh)
              refine w_mv_int (evs' (gsn rfl (gsn rfl gse))) ?_
              refine w_gop rfl (fun _ => ?_) (fun hh => nomatch hh)
              refine w_ieq rfl rfl (fun c11 => ?_) (fun c11 => absurd rfl c11)
              refine w_pick rfl (fun _ => ?_) (fun hh => nomatch hh)
              refine w_mv_bool rfl ?_
              refine w_mv_bool rfl ?_
              refine w_kp ?_
              refine w_nil ?_
              refine w_ret ?_
              refine ens_ret1 gse ?_
              exact rfl
            ·
              refine w_gop rfl (fun _ => ?_) (fun hh => nomatch hh)
              refine w_mv_bool rfl ?_
              refine w_gop rfl (fun hh => nomatch hh) (fun _ => ?_)
              refine w_gop rfl (fun hh => nomatch hh) (fun _ => ?_)
              refine w_gop rfl (fun hh => nomatch hh) (fun _ => ?_)
              refine w_gop rfl (fun hh => nomatch hh) (fun _ => ?_)
              refine w_gcall rfl (fun hh => nomatch hh) (fun _ => ?_)
              refine w_gop rfl (fun hh => nomatch hh) (fun _ => ?_)
              refine w_gop rfl (fun _ => ?_) (fun hh => nomatch hh)
              refine w_pick rfl (fun hh => nomatch hh) (fun _ => ?_)
              refine w_mv_bool rfl ?_
              refine w_pick rfl (fun hh => nomatch hh) (fun _ => ?_)
              refine w_mv_bool rfl ?_
              refine w_mv_bool rfl ?_
              refine w_gop rfl (fun _ => ?_) (fun hh => nomatch hh)
              refine w_mv_ptr (evs' (gsn rfl (gsn rfl (gsn rfl (gsn rfl (gsn rfl (gsn rfl f_p7))))))) ?_
              refine w_gop rfl (fun _ => ?_) (fun hh => nomatch hh)
              refine w_mv_int (evs' (gsn rfl gse)) ?_
              refine w_gop rfl (fun _ => ?_) (fun hh => nomatch hh)
              refine w_mv_int (evs' (gsn rfl (gsn rfl (gsn rfl (gsn rfl gse))))) ?_
              refine w_gcall rfl (fun _ => ?_) (fun hh => nomatch hh)
              refine w_call (holds_ok _ _ _ n2 _ _ _ _ _ _ _ _ _ hb_n2 Z nf_n2_Z lt_n2 (by first | omega | simp) (by omega) (fun h10 t10 ht10 hq Sq kp10 => ?_))
              have hb_n1 := kp10.get hb_n1 lt_n1 (ni1 (by omega))
              have hb_n3 := kp10.get hb_n3 lt_n3 (ni1 (by omega))
              have U := U.keep kp10 (nF1 nf_n2_U)
              have A := A.keep kp10 (nF1 nf_n2_A)
              have lt_n1 := kp10.lt lt_n1
              have lt_n2 := kp10.lt lt_n2
              have lt_n3 := kp10.lt lt_n3
              have hr : rd (untilF (max (max u0 u1) 0) now lea) (untilF (max (min u0 u1) 0) now lea) = (untilF (max (max u0 u1) 0) now lea) := by unfold rd; omega
              rw [hr] at hq ht10
              have hu10 : untilF (max (max u0 u1) 0) (untilF (max (max u0 u1) 0) now lea) lea = max (untilF (max (max u0 u1) 0) now lea) (untilF (max (max u0 u1) 0) now lea) := untilF_up lea (by omega)
              rw [hu10] at ht10
              have hb_n2 := hq
              have Z := Sq
              obtain rfl : t10 = false := by rw [ht10]; exact decide_eq_false (by omega)
              refine w_pick rfl (fun hh => nomatch hh) (fun _ => ?_)
              refine w_mv_bool rfl ?_
              refine w_kp ?_
              refine w_nil ?_
              refine w_cond (evs' gse) (fun hh => nomatch hh) (fun _ => ?_)
              refine w_skip ?_
              refine w_seq ?_
              refine w_reg ?_
              refine w_mv_ptr (evs' (gsn rfl (gsn rfl (gsn rfl (gsn rfl (gsn rfl (gsn rfl (gsn rfl f_p7)))))))) ?_
              refine w_call (drop_ok _ _ _ n2 _ _ _ _ _ hb_n2 lt_n2 U.flat Z.flat (fun h11 hq kp11 => ?_))
              have hb_n1 := kp11.get hb_n1 lt_n1 (ni1 (by omega))
              have hb_n3 := kp11.get hb_n3 lt_n3 (ni1 (by omega))
              have U := U.keep kp11 (nF1 nf_n2_U)
              have Z := Z.keep kp11 (nF1 nf_n2_Z)
              have A := A.keep kp11 (nF1 nf_n2_A)
              have lt_n1 := kp11.lt lt_n1
              have lt_n2 := kp11.lt lt_n2
              have lt_n3 := kp11.lt lt_n3
              have hb_n2 := hq
              have E1 := Sl.nilsl 1 h11
              have E2 : Sl 2 h11 .nilsl [] (([] : List (Int × Int)).map le) := Sl.nilsl 2 h11
              have nf_n1_E1 : n1 ∉ ([] : List P) := ni0
              have nf_n1_E2 : n1 ∉ ([] : List P) := ni0
              have nf_n2_E1 : n2 ∉ ([] : List P) := ni0
              have nf_n2_E2 : n2 ∉ ([] : List P) := ni0
              have nf_n3_E1 : n3 ∉ ([] : List P) := ni0
              have nf_n3_E2 : n3 ∉ ([] : List P) := ni0
              have dj_E1_E2 : ∀ x ∈ ([] : List P), x ∉ ([] : List P) := nF0
              have dj_E2_E1 : ∀ x ∈ ([] : List P), x ∉ ([] : List P) := nF0
              refine w_nil ?_
              refine w_seq ?_
              refine w_reg ?_
              refine w_mv_ptr (evs' (gsn rfl (gsn rfl (gsn rfl (gsn rfl (gsn rfl (gsn rfl (gsn rfl f_p7)))))))) ?_
              refine w_call (holds_ok _ _ _ n2 _ _ _ _ _ _ _ _ _ hb_n2 E2 nf_n2_E2 lt_n2 (by first | omega | simp) (by omega) (fun h12 t12 ht12 hq Sq kp12 => ?_))
              have hb_n1 := kp12.get hb_n1 lt_n1 (ni1 (by omega))
              have hb_n3 := kp12.get hb_n3 lt_n3 (ni1 (by omega))
              have E1 := E1.keep kp12 (nF1 nf_n2_E1)
              have lt_n1 := kp12.lt lt_n1
              have lt_n2 := kp12.lt lt_n2
              have lt_n3 := kp12.lt lt_n3
              have hr : rd 0 (untilF (max (max u0 u1) 0) now lea) = (untilF (max (max u0 u1) 0) now lea) := by unfold rd; omega
              rw [hr] at hq ht12
              have hb_n2 := hq
              have E2 := Sq
              obtain rfl : t12 = false := by rw [ht12]; exact decide_eq_false (by simp [untilF])
              refine w_not rfl ?_
              refine w_mv_bool rfl ?_
              refine w_gop rfl (fun _ => ?_) (fun hh => nomatch hh)
              refine w_mv_ptr (evs' (gsn rfl (gsn rfl (gsn rfl (gsn rfl (gsn rfl (gsn rfl (gsn rfl f_p7)))))))) ?_
              refine w_gop rfl (fun _ => ?_) (fun hh => nomatch hh)
              refine w_ldn (evs' (gsn rfl (gsn rfl (gsn rfl (gsn rfl (gsn rfl (gsn rfl (gsn rfl f_p9)))))))) hb_n3 rfl ?_
              refine w_gcall rfl (fun _ => ?_) (fun hh => nomatch hh)
              refine w_call (take_unknown _ _ _ n2 _ _ _ _ _ _ _ _ _ _ _ hb_n2 E1 nf_n2_E1 lt_n2 (by first | omega | simp) (by omega) (fun e he => nomatch he) (fun h13 hq Sq kp13 => ?_))
              have hb_n1 := kp13.get hb_n1 lt_n1 (ni1 (by omega))
              have hb_n3 := kp13.get hb_n3 lt_n3 (ni1 (by omega))
              have E2 := E2.keep kp13 (nF1 nf_n2_E2)
              have lt_n1 := kp13.lt lt_n1
              have lt_n2 := kp13.lt lt_n2
              have lt_n3 := kp13.lt lt_n3
              have hb_n2 := hq
              have E1 := Sq
              have hr : rd 0 (untilF (max (max u0 u1) 0) now lea) = (untilF (max (max u0 u1) 0) now lea) := by unfold rd; omega
              rw [hr] at hb_n2
              refine w_gop rfl (fun _ => ?_) (fun hh => nomatch hh)
              refine w_not rfl ?_
              refine w_pick rfl (fun _ => ?_) (fun hh => nomatch hh)
              refine w_mv_bool rfl ?_
              refine w_mv_bool rfl ?_
              refine w_gop rfl (fun _ => ?_) (fun hh => nomatch hh)
              refine w_mv_ptr (evs' (gsn rfl (gsn rfl (gsn rfl (gsn rfl (gsn rfl (gsn rfl (gsn rfl f_p7)))))))) ?_
              refine w_gcall rfl (fun _ => ?_) (fun hh => nomatch hh)
              refine w_call (until_ok _ _ _ n2 _ _ _ _ _ _ _ _ _ hb_n2 E2 nf_n2_E2 lt_n2 (by simp) (by omega) (fun h14 hq Sq kp14 => ?_))
              have hb_n1 := kp14.get hb_n1 lt_n1 (ni1 (by omega))
              have hb_n3 := kp14.get hb_n3 lt_n3 (ni1 (by omega))
              have E1 := E1.keep kp14 (nF1 nf_n2_E1)
              have lt_n1 := kp14.lt lt_n1
              have lt_n2 := kp14.lt lt_n2
              have lt_n3 := kp14.lt lt_n3
              have hr : rd 0 (untilF (max (max u0 u1) 0) now lea) = (untilF (max (max u0 u1) 0) now lea) := by unfold rd; omega
              rw [hr] at hq ⊢
              have hu9 : untilF (max 1073741824 0) (untilF (max (max u0 u1) 0) now lea) [] = (untilF (max (max u0 u1) 0) now lea) := rfl
              rw [hu9]
              have hb_n2 := hq
              have E2 := Sq
              refine w_gop rfl (fun _ => ?_) (fun hh => nomatch hh)
              refine w_mv_int (evs' (gsn rfl (gsn rfl gse))) ?_
              refine w_gop rfl (fun _ => ?_) (fun hh => nomatch hh)
              refine w_ieq rfl rfl (fun c12 => ?_) (fun c12 => absurd rfl c12)
              refine w_pick rfl (fun _ => ?_) (fun hh => nomatch hh)
              refine w_mv_bool rfl ?_
              refine w_mv_bool rfl ?_
              refine w_kp ?_
              refine w_nil ?_
              refine w_ret ?_
              refine ens_ret1 gse ?_
              exact rfl
          ·
            refine w_mv_bool rfl ?_
            refine w_gop rfl (fun hh => nomatch hh) (fun _ => ?_)
            refine w_gop rfl (fun hh => nomatch hh) (fun _ => ?_)
            refine w_gop rfl (fun hh => nomatch hh) (fun _ => ?_)
            refine w_gop rfl (fun hh => nomatch hh) (fun _ => ?_)
            refine w_gcall rfl (fun hh => nomatch hh) (fun _ => ?_)
            refine w_gop rfl (fun hh => nomatch hh) (fun _ => ?_)
            refine w_pick rfl (fun hh => nomatch hh) (fun _ => ?_)
            refine w_mv_bool rfl ?_
            refine w_mv_bool rfl ?_
            refine w_gop rfl (fun _ => ?_) (fun hh => nomatch hh)
            refine w_mv_ptr (evs' (gsn rfl (gsn rfl (gsn rfl (gsn rfl (gsn rfl (gsn rfl f_p7))))))) ?_
            refine w_gop rfl (fun _ => ?_) (fun hh => nomatch hh)
            refine w_mv_int (evs' (gsn rfl (gsn rfl gse))) ?_
            refine w_gop rfl (fun _ => ?_) (fun hh => nomatch hh)
            refine w_mv_int (evs' (gsn rfl (gsn rfl (gsn rfl gse)))) ?_
            refine w_gcall rfl (fun _ => ?_) (fun hh => nomatch hh)
            refine w_call (holds_ok _ _ _ n2 _ _ _ _ _ _ _ _ _ hb_n2 Z nf_n2_Z lt_n2 (by first | omega | simp) (by omega) (fun h8 t8 ht8 hq Sq kp8 => ?_))
            have hb_n1 := kp8.get hb_n1 lt_n1 (ni1 (by omega))
            have hb_n3 := kp8.get hb_n3 lt_n3 (ni1 (by omega))
            have U := U.keep kp8 (nF1 nf_n2_U)
            have A := A.keep kp8 (nF1 nf_n2_A)
            have lt_n1 := kp8.lt lt_n1
            have lt_n2 := kp8.lt lt_n2
            have lt_n3 := kp8.lt lt_n3
            have hr : rd (untilF (max (min u0 u1) 0) now lea) now = (untilF (max (min u0 u1) 0) now lea) := by unfold rd; omega
            rw [hr] at hq ht8
            have hu8 : untilF (max (min u0 u1) 0) (untilF (max (min u0 u1) 0) now lea) lea = max (untilF (max (min u0 u1) 0) now lea) (untilF (max (min u0 u1) 0) now lea) := untilF_up lea (by omega)
            rw [hu8] at ht8
            have hb_n2 := hq
            have Z := Sq
            obtain rfl : t8 = false := by rw [ht8]; exact decide_eq_false (by omega)
            refine w_pick rfl (fun hh => nomatch hh) (fun _ => ?_)
            refine w_mv_bool rfl ?_
            refine w_mv_bool rfl ?_
            refine w_gop rfl (fun _ => ?_) (fun hh => nomatch hh)
            refine w_mv_int (evs' (gsn rfl gse)) ?_
            refine w_gop rfl (fun _ => ?_) (fun hh => nomatch hh)
            refine w_mv_int (evs' (gsn rfl (gsn rfl gse))) ?_
            refine w_gop rfl (fun _ => ?_) (fun hh => nomatch hh)
            refine w_gt rfl rfl (fun c13 => ?_) (fun c13 => ?_)
            ·
              refine w_gop rfl (fun _ => ?_) (fun hh => nomatch hh)
              refine w_mv_bool rfl ?_
              refine w_gop rfl (fun _ => ?_) (fun hh => nomatch hh)
              refine w_mv_ptr (evs' (gsn rfl (gsn rfl (gsn rfl (gsn rfl (gsn rfl (gsn rfl f_p7))))))) ?_
              refine w_gop rfl (fun _ => ?_) (fun hh => nomatch hh)
              refine w_mv_int (evs' (gsn rfl gse)) ?_
              refine w_gop rfl (fun _ => ?_) (fun hh => nomatch hh)
              refine w_sub rfl rfl (wr64 (by omega) (by omega)) ?_
              refine w_gop rfl (fun _ => ?_) (fun hh => nomatch hh)
              refine w_mv_int (evs' (gsn rfl (gsn rfl (gsn rfl (gsn rfl gse))))) ?_
              refine w_gcall rfl (fun _ => ?_) (fun hh => nomatch hh)
              refine w_call (holds_ok _ _ _ n2 _ _ _ _ _ _ _ _ _ hb_n2 Z nf_n2_Z lt_n2 (by first | omega | simp) (by omega) (fun h9 t9 ht9 hq Sq kp9 => ?_))
              have hb_n1 := kp9.get hb_n1 lt_n1 (ni1 (by omega))
              have hb_n3 := kp9.get hb_n3 lt_n3 (ni1 (by omega))
              have U := U.keep kp9 (nF1 nf_n2_U)
              have A := A.keep kp9 (nF1 nf_n2_A)
              have lt_n1 := kp9.lt lt_n1
              have lt_n2 := kp9.lt lt_n2
              have lt_n3 := kp9.lt lt_n3
              have hr : rd ((untilF (max (max u0 u1) 0) now lea) - 1) (untilF (max (min u0 u1) 0) now lea) = ((untilF (max (max u0 u1) 0) now lea) - 1) := by unfold rd; omega
              rw [hr] at hq ht9
              have hu9 : untilF (max (max u0 u1) 0) ((untilF (max (max u0 u1) 0) now lea) - 1) lea = max ((untilF (max (max u0 u1) 0) now lea) - 1) (untilF (max (max u0 u1) 0) now lea) := untilF_up lea (by omega)
              rw [hu9] at ht9
              have hb_n2 := hq
              have Z := Sq
              obtain rfl : t9 = true := by rw [ht9]; exact decide_eq_true (by omega)
              refine w_gop rfl (fun _ => ?_) (fun hh => nomatch hh)
              refine w_not rfl ?_
              refine w_gop rfl (fun _ => ?_) (fun hh => nomatch hh)
              refine w_pick rfl (fun _ => ?_) (fun hh => nomatch hh)
              refine w_mv_bool rfl ?_
              refine w_pick rfl (fun hh => nomatch hh) (fun _ => ?_)
              refine w_mv_bool rfl ?_
              refine w_mv_bool rfl ?_
              refine w_gop rfl (fun _ => ?_) (fun hh => nomatch hh)
              refine w_mv_ptr (evs' (gsn rfl (gsn rfl (gsn rfl (gsn rfl (gsn rfl (gsn rfl f_p7))))))) ?_
              refine w_gop rfl (fun _ => ?_) (fun hh => nomatch hh)
              refine w_mv_int (evs' (gsn rfl gse)) ?_
              refine w_gop rfl (fun _ => ?_) (fun hh => nomatch hh)
              refine w_mv_int (evs' (gsn rfl (gsn rfl (gsn rfl (gsn rfl gse))))) ?_
              refine w_gcall rfl (fun _ => ?_) (fun hh => nomatch hh)
              refine w_call (holds_ok _ _ _ n2 _ _ _ _ _ _ _ _ _ hb_n2 Z nf_n2_Z lt_n2 (by first | omega | simp) (by omega) (fun h10 t10 ht10 hq Sq kp10 => ?_))
              have hb_n1 := kp10.get hb_n1 lt_n1 (ni1 (by omega))
              have hb_n3 := kp10.get hb_n3 lt_n3 (ni1 (by omega))
              have U := U.keep kp10 (nF1 nf_n2_U)
              have A := A.keep kp10 (nF1 nf_n2_A)
              have lt_n1 := kp10.lt lt_n1
              have lt_n2 := kp10.lt lt_n2
              have lt_n3 := kp10.lt lt_n3
              have hr : rd (untilF (max (max u0 u1) 0) now lea) ((untilF (max (max u0 u1) 0) now lea) - 1) = (untilF (max (max u0 u1) 0) now lea) := by unfold rd; omega
              rw [hr] at hq ht10
              have hu10 : untilF (max (max u0 u1) 0) (untilF (max (max u0 u1) 0) now lea) lea = max (untilF (max (max u0 u1) 0) now lea) (untilF (max (max u0 u1) 0) now lea) := untilF_up lea (by omega)
              rw [hu10] at ht10
              have hb_n2 := hq
              have Z := Sq
              obtain rfl : t10 = false := by rw [ht10]; exact decide_eq_false (by omega)
              refine w_pick rfl (fun hh => nomatch hh) (fun _ => ?_)
              refine w_mv_bool rfl ?_
              refine w_kp ?_
              refine w_nil ?_
              refine w_cond (evs' gse) (fun hh => nomatch hh) (fun _ => ?_)
              refine w_skip ?_
              refine w_seq ?_
              refine w_reg ?_
              refine w_mv_ptr (evs' (gsn rfl (gsn rfl (gsn rfl (gsn rfl (gsn rfl (gsn rfl (gsn rfl f_p7)))))))) ?_
              refine w_call (drop_ok _ _ _ n2 _ _ _ _ _ hb_n2 lt_n2 U.flat Z.flat (fun h11 hq kp11 => ?_))
              have hb_n1 := kp11.get hb_n1 lt_n1 (ni1 (by omega))
              have hb_n3 := kp11.get hb_n3 lt_n3 (ni1 (by omega))
              have U := U.keep kp11 (nF1 nf_n2_U)
              have Z := Z.keep kp11 (nF1 nf_n2_Z)
              have A := A.keep kp11 (nF1 nf_n2_A)
              have lt_n1 := kp11.lt lt_n1
              have lt_n2 := kp11.lt lt_n2
              have lt_n3 := kp11.lt lt_n3
              have hb_n2 := hq
              have E1 := Sl.nilsl 1 h11
              have E2 : Sl 2 h11 .nilsl [] (([] : List (Int × Int)).map le) := Sl.nilsl 2 h11
              have nf_n1_E1 : n1 ∉ ([] : List P) := ni0
              have nf_n1_E2 : n1 ∉ ([] : List P) := ni0
              have nf_n2_E1 : n2 ∉ ([] : List P) := ni0
              have nf_n2_E2 : n2 ∉ ([] : List P) := ni0
              have nf_n3_E1 : n3 ∉ ([] : List P) := ni0
              have nf_n3_E2 : n3 ∉ ([] : List P) := ni0
              have dj_E1_E2 : ∀ x ∈ ([] : List P), x ∉ ([] : List P) := nF0
              have dj_E2_E1 : ∀ x ∈ ([] : List P), x ∉ ([] : List P) := nF0
              refine w_nil ?_
              refine w_seq ?_
              refine w_reg ?_
              refine w_mv_ptr (evs' (gsn rfl (gsn rfl (gsn rfl (gsn rfl (gsn rfl (gsn rfl (gsn rfl f_p7)))))))) ?_
              refine w_call (holds_ok _ _ _ n2 _ _ _ _ _ _ _ _ _ hb_n2 E2 nf_n2_E2 lt_n2 (by first | omega | simp) (by omega) (fun h12 t12 ht12 hq Sq kp12 => ?_))
              have hb_n1 := kp12.get hb_n1 lt_n1 (ni1 (by omega))
              have hb_n3 := kp12.get hb_n3 lt_n3 (ni1 (by omega))
              have E1 := E1.keep kp12 (nF1 nf_n2_E1)
              have lt_n1 := kp12.lt lt_n1
              have lt_n2 := kp12.lt lt_n2
              have lt_n3 := kp12.lt lt_n3
              have hr : rd 0 (untilF (max (max u0 u1) 0) now lea) = (untilF (max (max u0 u1) 0) now lea) := by unfold rd; omega
              rw [hr] at hq ht12
              have hb_n2 := hq
              have E2 := Sq
              obtain rfl : t12 = false := by rw [ht12]; exact decide_eq_false (by simp [untilF])
              refine w_not rfl ?_
              refine w_mv_bool rfl ?_
              refine w_gop rfl (fun _ => ?_) (fun hh => nomatch hh)
              refine w_mv_ptr (evs' (gsn rfl (gsn rfl (gsn rfl (gsn rfl (gsn rfl (gsn rfl (gsn rfl f_p7)))))))) ?_
              refine w_gop rfl (fun _ => ?_) (fun hh => nomatch hh)
              refine w_ldn (evs' (gsn rfl (gsn rfl (gsn rfl (gsn rfl (gsn rfl (gsn rfl (gsn rfl f_p9)))))))) hb_n3 rfl ?_
              refine w_gcall rfl (fun _ => ?_) (fun hh => nomatch hh)
              refine w_call (take_unknown _ _ _ n2 _ _ _ _ _ _ _ _ _ _ _ hb_n2 E1 nf_n2_E1 lt_n2 (by first | omega | simp) (by omega) (fun e he => nomatch he) (fun h13 hq Sq kp13 => ?_))
              have hb_n1 := kp13.get hb_n1 lt_n1 (ni1 (by omega))
              have hb_n3 := kp13.get hb_n3 lt_n3 (ni1 (by omega))
              have E2 := E2.keep kp13 (nF1 nf_n2_E2)
              have lt_n1 := kp13.lt lt_n1
              have lt_n2 := kp13.lt lt_n2
              have lt_n3 := kp13.lt lt_n3
              have hb_n2 := hq
              have E1 := Sq
              have hr : rd 0 (untilF (max (max u0 u1) 0) now lea) = (untilF (max (max u0 u1) 0) now lea) := by unfold rd; omega
              rw [hr] at hb_n2
              refine w_gop rfl (fun _ => ?_) (fun hh => nomatch hh)
              refine w_not rfl ?_
              refine w_pick rfl (fun _ => ?_) (fun hh => nomatch hh)
              refine w_mv_bool rfl ?_
              refine w_mv_bool rfl ?_
              refine w_gop rfl (fun _ => ?_) (fun hh => nomatch hh)
              refine w_mv_ptr (evs' (gsn rfl (gsn rfl (gsn rfl (gsn rfl (gsn rfl (gsn rfl (gsn rfl f_p7)))))))) ?_
              refine w_gcall rfl (fun _ => ?_) (fun hh => nomatch hh)
              refine w_call (until_ok _ _ _ n2 _ _ _ _ _ _ _ _ _ hb_n2 E2 nf_n2_E2 lt_n2 (by simp) (by omega) (fun h14 hq Sq kp14 => ?_))
              have hb_n1 := kp14.get hb_n1 lt_n1 (ni1 (by omega))
              have hb_n3 := kp14.get hb_n3 lt_n3 (ni1 (by omega))
              have E1 := E1.keep kp14 (nF1 nf_n2_E1)
              have lt_n1 := kp14.lt lt_n1
              have lt_n2 := kp14.lt lt_n2
              have lt_n3 := kp14.lt lt_n3
              have hr : rd 0 (untilF (max (max u0 u1) 0) now lea) = (untilF (max (max u0 u1) 0) now lea) := by unfold rd; omega
              rw [hr] at hq ⊢
              have hu9 : untilF (max 1073741824 0) (untilF (max (max u0 u1) 0) now lea) [] = (untilF (max (max u0 u1) 0) now lea) := rfl
              rw [hu9]
              have hb_n2 := hq
              have E2 := Sq
              refine w_gop rfl (fun _ => ?_) (fun hh => nomatch hh)
              refine w_mv_int (evs' (gsn rfl (gsn rfl gse))) ?_
              refine w_gop rfl (fun _ => ?_) (fun hh => nomatch hh)
              refine w_ieq rfl rfl (fun c14 => ?_) (fun c14 => absurd rfl c14)
              refine w_pick rfl (fun _ => ?_) (fun hh => nomatch hh)
              refine w_mv_bool rfl ?_
              refine w_mv_bool rfl ?_
              refine w_kp ?_
              refine w_nil ?_
              refine w_ret ?_
              refine ens_ret1 gse ?_
              exact rfl
            ·
              refine w_gop rfl (fun _ => ?_) (fun hh => nomatch hh)
              refine w_mv_bool rfl ?_
              refine w_gop rfl (fun hh => nomatch hh) (fun _ => ?_)
              refine w_gop rfl (fun hh => nomatch hh) (fun _ => ?_)
              refine w_gop rfl (fun hh => nomatch hh) (fun _ => ?_)
              refine w_gop rfl (fun hh => nomatch hh) (fun _ => ?_)
              refine w_gcall rfl (fun hh => nomatch hh) (fun _ => ?_)
              refine w_gop rfl (fun hh => nomatch hh) (fun _ => ?_)
              refine w_gop rfl (fun _ => ?_) (fun hh => nomatch hh)
              refine w_pick rfl (fun hh => nomatch hh) (fun _ => ?_)
              refine w_mv_bool rfl ?_
              refine w_pick rfl (fun hh => nomatch hh) (fun _ => ?_)
              refine w_mv_bool rfl ?_
              refine w_mv_bool rfl ?_
              refine w_gop rfl (fun _ => ?_) (fun hh => nomatch hh)
              refine w_mv_ptr (evs' (gsn rfl (gsn rfl (gsn rfl (gsn rfl (gsn rfl (gsn rfl f_p7))))))) ?_
              refine w_gop rfl (fun _ => ?_) (fun hh => nomatch hh)
              refine w_mv_int (evs' (gsn rfl gse)) ?_
              refine w_gop rfl (fun _ => ?_) (fun hh => nomatch hh)
              refine w_mv_int (evs' (gsn rfl (gsn rfl (gsn rfl (gsn rfl gse))))) ?_
              refine w_gcall rfl (fun _ => ?_) (fun hh => nomatch hh)
              refine w_call (holds_ok _ _ _ n2 _ _ _ _ _ _ _ _ _ hb_n2 Z nf_n2_Z lt_n2 (by first | omega | simp) (by omega) (fun h9 t9 ht9 hq Sq kp9 => ?_))
              have hb_n1 := kp9.get hb_n1 lt_n1 (ni1 (by omega))
              have hb_n3 := kp9.get hb_n3 lt_n3 (ni1 (by omega))
              have U := U.keep kp9 (nF1 nf_n2_U)
              have A := A.keep kp9 (nF1 nf_n2_A)
              have lt_n1 := kp9.lt lt_n1
              have lt_n2 := kp9.lt lt_n2
              have lt_n3 := kp9.lt lt_n3
              have hr : rd (untilF (max (max u0 u1) 0) now lea) (untilF (max (min u0 u1) 0) now lea) = (untilF (max (max u0 u1) 0) now lea) := by unfold rd; omega
              rw [hr] at hq ht9
              have hu9 : untilF (max (max u0 u1) 0) (untilF (max (max u0 u1) 0) now lea) lea = max (untilF (max (max u0 u1) 0) now lea) (untilF (max (max u0 u1) 0) now lea) := untilF_up lea (by omega)
              rw [hu9] at ht9
              have hb_n2 := hq
              have Z := Sq
              obtain rfl : t9 = false := by rw [ht9]; exact decide_eq_false (by omega)
              refine w_pick rfl (fun hh => nomatch hh) (fun _ => ?_)
              refine w_mv_bool rfl ?_
              refine w_kp ?_
              refine w_nil ?_
              refine w_cond (evs' gse) (fun hh => nomatch hh) (fun _ => ?_)
              refine w_skip ?_
              refine w_seq ?_
              refine w_reg ?_
              refine w_mv_ptr (evs' (gsn rfl (gsn rfl (gsn rfl (gsn rfl (gsn rfl (gsn rfl (gsn rfl f_p7)))))))) ?_
              refine w_call (drop_ok _ _ _ n2 _ _ _ _ _ hb_n2 lt_n2 U.flat Z.flat (fun h10 hq kp10 => ?_))
              have hb_n1 := kp10.get hb_n1 lt_n1 (ni1 (by omega))
              have hb_n3 := kp10.get hb_n3 lt_n3 (ni1 (by omega))
              have U := U.keep kp10 (nF1 nf_n2_U)
              have Z := Z.keep kp10 (nF1 nf_n2_Z)
              have A := A.keep kp10 (nF1 nf_n2_A)
              have lt_n1 := kp10.lt lt_n1
              have lt_n2 := kp10.lt lt_n2
              have lt_n3 := kp10.lt lt_n3
              have hb_n2 := hq
              have E1 := Sl.nilsl 1 h10
              have E2 : Sl 2 h10 .nilsl [] (([] : List (Int × Int)).map le) := Sl.nilsl 2 h10
              have nf_n1_E1 : n1 ∉ ([] : List P) := ni0
              have nf_n1_E2 : n1 ∉ ([] : List P) := ni0
              have nf_n2_E1 : n2 ∉ ([] : List P) := ni0
              have nf_n2_E2 : n2 ∉ ([] : List P) := ni0
              have nf_n3_E1 : n3 ∉ ([] : List P) := ni0
              have nf_n3_E2 : n3 ∉ ([] : List P) := ni0
              have dj_E1_E2 : ∀ x ∈ ([] : List P), x ∉ ([] : List P) := nF0
              have dj_E2_E1 : ∀ x ∈ ([] : List P), x ∉ ([] : List P) := nF0
              refine w_nil ?_
              refine w_seq ?_
              refine w_reg ?_
              refine w_mv_ptr (evs' (gsn rfl (gsn rfl (gsn rfl (gsn rfl (gsn rfl (gsn rfl (gsn rfl f_p7)))))))) ?_
              refine w_call (holds_ok _ _ _ n2 _ _ _ _ _ _ _ _ _ hb_n2 E2 nf_n2_E2 lt_n2 (by first | omega | simp) (by omega) (fun h11 t11 ht11 hq Sq kp11 => ?_))
              have hb_n1 := kp11.get hb_n1 lt_n1 (ni1 (by omega))
              have hb_n3 := kp11.get hb_n3 lt_n3 (ni1 (by omega))
              have E1 := E1.keep kp11 (nF1 nf_n2_E1)
              have lt_n1 := kp11.lt lt_n1
              have lt_n2 := kp11.lt lt_n2
              have lt_n3 := kp11.lt lt_n3
              have hr : rd 0 (untilF (max (max u0 u1) 0) now lea) = (untilF (max (max u0 u1) 0) now lea) := by unfold rd; omega
              rw [hr] at hq ht11
              have hb_n2 := hq
              have E2 := Sq
              obtain rfl : t11 = false := by rw [ht11]; exact decide_eq_false (by simp [untilF])
              refine w_not rfl ?_
              refine w_mv_bool rfl ?_
              refine w_gop rfl (fun _ => ?_) (fun hh => nomatch hh)
              refine w_mv_ptr (evs' (gsn rfl (gsn rfl (gsn rfl (gsn rfl (gsn rfl (gsn rfl (gsn rfl f_p7)))))))) ?_
              refine w_gop rfl (fun _ => ?_) (fun hh => nomatch hh)
              refine w_ldn (evs' (gsn rfl (gsn rfl (gsn rfl (gsn rfl (gsn rfl (gsn rfl (gsn rfl f_p9)))))))) hb_n3 rfl ?_
              refine w_gcall rfl (fun _ => ?_) (fun hh => nomatch hh)
              refine w_call (take_unknown _ _ _ n2 _ _ _ _ _ _ _ _ _ _ _ hb_n2 E1 nf_n2_E1 lt_n2 (by first | omega | simp) (by omega) (fun e he => nomatch he) (fun h12 hq Sq kp12 => ?_))
              have hb_n1 := kp12.get hb_n1 lt_n1 (ni1 (by omega))
              have hb_n3 := kp12.get hb_n3 lt_n3 (ni1 (by omega))
              have E2 := E2.keep kp12 (nF1 nf_n2_E2)
              have lt_n1 := kp12.lt lt_n1
              have lt_n2 := kp12.lt lt_n2
              have lt_n3 := kp12.lt lt_n3
              have hb_n2 := hq
              have E1 := Sq
              have hr : rd 0 (untilF (max (max u0 u1) 0) now lea) = (untilF (max (max u0 u1) 0) now lea) := by unfold rd; omega
              rw [hr] at hb_n2
              refine w_gop rfl (fun _ => ?_) (fun hh => nomatch hh)
              refine w_not rfl ?_
              refine w_pick rfl (fun _ => ?_) (fun hh => nomatch hh)
              refine w_mv_bool rfl ?_
              refine w_mv_bool rfl ?_
              refine w_gop rfl (fun _ => ?_) (fun hh => nomatch hh)
              refine w_mv_ptr (evs' (gsn rfl (gsn rfl (gsn rfl (gsn rfl (gsn rfl (gsn rfl (gsn rfl f_p7)))))))) ?_
              refine w_gcall rfl (fun _ => ?_) (fun hh => nomatch hh)
              refine w_call (until_ok _ _ _ n2 _ _ _ _ _ _ _ _ _ hb_n2 E2 nf_n2_E2 lt_n2 (by simp) (by omega) (fun h13 hq Sq kp13 => ?_))
              have hb_n1 := kp13.get hb_n1 lt_n1 (ni1 (by omega))
              have hb_n3 := kp13.get hb_n3 lt_n3 (ni1 (by omega))
              have E1 := E1.keep kp13 (nF1 nf_n2_E1)
              have lt_n1 := kp13.lt lt_n1
              have lt_n2 := kp13.lt lt_n2
              have lt_n3 := kp13.lt lt_n3
              have hr : rd 0 (untilF (max (max u0 u1) 0) now lea) = (untilF (max (max u0 u1) 0) now lea) := by unfold rd; omega
              rw [hr] at hq ⊢
              have hu9 : untilF (max 1073741824 0) (untilF (max (max u0 u1) 0) now lea) [] = (untilF (max (max u0 u1) 0) now lea) := rfl
              rw [hu9]
              have hb_n2 := hq
              have E2 := Sq
              refine w_gop rfl (fun _ => ?_) (fun hh => nomatch hh)
              refine w_mv_int (evs' (gsn rfl (gsn rfl gse))) ?_
              refine w_gop rfl (fun _ => ?_) (fun hh => nomatch hh)
              refine w_ieq rfl rfl (fun c15 => ?_) (fun c15 => absurd rfl c15)
              refine w_pick rfl (fun _ => ?_) (fun hh => nomatch hh)
              refine w_mv_bool rfl ?_
              refine w_mv_bool rfl ?_
              refine w_kp ?_
              refine w_nil ?_
              refine w_ret ?_
              refine ens_ret1 gse ?_
              exact rfl
        ·
          have ht7 := of_decide_eq_true ht7.symm
          refine w_gop rfl (fun _ => ?_) (fun hh => nomatch hh)
          refine w_mv_int (evs' gse) ?_
          refine w_gop rfl (fun _ => ?_) (fun hh => nomatch hh)
          refine w_mv_int (evs' (gsn rfl (gsn rfl (gsn rfl (gsn rfl (gsn rfl f_p8)))))) ?_
          refine w_gop rfl (fun _ => ?_) (fun hh => nomatch hh)
          refine w_gt rfl rfl (fun c16 => ?_) (fun c16 => by omega)
          refine w_gop rfl (fun _ => ?_) (fun hh => nomatch hh)
          refine w_eqv (t' := false) rfl rfl rfl rfl ?_
          refine w_pick rfl (fun hh => nomatch hh) (fun _ => ?_)
          refine w_mv_bool rfl ?_
          refine w_kp ?_
          refine w_nil ?_
          refine w_cond (evs' gse) (fun hh => nomatch hh) (fun _ => ?_)
          refine w_skip ?_
          refine w_seq ?_
          refine w_seq ?_
          refine w_reg ?_
          refine w_mv_int (evs' (gsn rfl (gsn rfl gse))) ?_
          refine w_mv_int (evs' (gsn rfl (gsn rfl (gsn rfl (gsn rfl (gsn rfl (gsn rfl f_p8))))))) ?_
          refine w_gt rfl rfl (fun c17 => ?_) (fun c17 => ?_)
          ·
            refine w_mv_bool rfl ?_
            refine w_gop rfl (fun _ => ?_) (fun hh => nomatch hh)
            refine w_mv_ptr (evs' (gsn rfl (gsn rfl (gsn rfl (gsn rfl (gsn rfl (gsn rfl f_p7))))))) ?_
            refine w_gop rfl (fun _ => ?_) (fun hh => nomatch hh)
            refine w_mv_int (evs' (gsn rfl (gsn rfl gse))) ?_
            refine w_gop rfl (fun _ => ?_) (fun hh => nomatch hh)
            refine w_sub rfl rfl (wr64 (by omega) (by omega)) ?_
            refine w_gop rfl (fun _ => ?_) (fun hh => nomatch hh)
            refine w_mv_int (evs' (gsn rfl (gsn rfl (gsn rfl gse)))) ?_
            refine w_gcall rfl (fun _ => ?_) (fun hh => nomatch hh)
            refine w_call (holds_ok _ _ _ n2 _ _ _ _ _ _ _ _ _ hb_n2 Z nf_n2_Z lt_n2 (by first | omega | simp) (by omega) (fun h8 t8 ht8 hq Sq kp8 => ?_))
            have hb_n1 := kp8.get hb_n1 lt_n1 (ni1 (by omega))
            have hb_n3 := kp8.get hb_n3 lt_n3 (ni1 (by omega))
            have U := U.keep kp8 (nF1 nf_n2_U)
            have A := A.keep kp8 (nF1 nf_n2_A)
            have lt_n1 := kp8.lt lt_n1
            have lt_n2 := kp8.lt lt_n2
            have lt_n3 := kp8.lt lt_n3
            have hr : rd ((untilF (max (min u0 u1) 0) now lea) - 1) now = ((untilF (max (min u0 u1) 0) now lea) - 1) := by unfold rd; omega
            rw [hr] at hq ht8
            have hu8 : untilF (max (min u0 u1) 0) ((untilF (max (min u0 u1) 0) now lea) - 1) lea = max ((untilF (max (min u0 u1) 0) now lea) - 1) (untilF (max (min u0 u1) 0) now lea) := untilF_up lea (by omega)
            rw [hu8] at ht8
            have hb_n2 := hq
            have Z := Sq
            obtain rfl : t8 = true := by rw [ht8]; exact decide_eq_true (by omega)
            refine w_gop rfl (fun _ => ?_) (fun hh => nomatch hh)
            refine w_not rfl ?_
            refine w_pick rfl (fun _ => ?_) (fun hh => nomatch hh)
            refine w_mv_bool rfl ?_
            refine w_mv_bool rfl ?_
            refine w_gop rfl (fun _ => ?_) (fun hh => nomatch hh)
            refine w_mv_ptr (evs' (gsn rfl (gsn rfl (gsn rfl (gsn rfl (gsn rfl (gsn rfl f_p7))))))) ?_
            refine w_gop rfl (fun _ => ?_) (fun hh => nomatch hh)
            refine w_mv_int (evs' (gsn rfl (gsn rfl gse))) ?_
            refine w_gop rfl (fun _ => ?_) (fun hh => nomatch hh)
            refine w_mv_int (evs' (gsn rfl (gsn rfl (gsn rfl gse)))) ?_
            refine w_gcall rfl (fun _ => ?_) (fun hh => nomatch hh)
            refine w_call (holds_ok _ _ _ n2 _ _ _ _ _ _ _ _ _ hb_n2 Z nf_n2_Z lt_n2 (by first | omega | simp) (by omega) (fun h9 t9 ht9 hq Sq kp9 => ?_))
            have hb_n1 := kp9.get hb_n1 lt_n1 (ni1 (by omega))
            have hb_n3 := kp9.get hb_n3 lt_n3 (ni1 (by omega))
            have U := U.keep kp9 (nF1 nf_n2_U)
            have A := A.keep kp9 (nF1 nf_n2_A)
            have lt_n1 := kp9.lt lt_n1
            have lt_n2 := kp9.lt lt_n2
            have lt_n3 := kp9.lt lt_n3
            have hr : rd (untilF (max (min u0 u1) 0) now lea) ((untilF (max (min u0 u1) 0) now lea) - 1) = (untilF (max (min u0 u1) 0) now lea) := by unfold rd; omega
            rw [hr] at hq ht9
            have hu9 : untilF (max (min u0 u1) 0) (untilF (max (min u0 u1) 0) now lea) lea = max (untilF (max (min u0 u1) 0) now lea) (untilF (max (min u0 u1) 0) now lea) := untilF_up lea (by omega)
            rw [hu9] at ht9
            have hb_n2 := hq
            have Z := Sq
            obtain rfl : t9 = false := by rw [ht9]; exact decide_eq_false (by omega)
            refine w_pick rfl (fun hh => nomatch hh) (fun _ => ?_)
            refine w_mv_bool rfl ?_
            refine w_mv_bool rfl ?_
            refine w_gop rfl (fun _ => ?_) (fun hh => nomatch hh)
            refine w_mv_int (evs' (gsn rfl gse)) ?_
            refine w_gop rfl (fun _ => ?_) (fun hh => nomatch hh)
            refine w_mv_int (evs' (gsn rfl (gsn rfl gse))) ?_
            refine w_gop rfl (fun _ => ?_) (fun hh => nomatch hh)
            refine w_gt rfl rfl (fun c18 => ?_) (fun c18 => ?_)
            ·
              refine w_gop rfl (fun _ => ?_) (fun hh => nomatch hh)
              refine w_mv_bool rfl ?_
              refine w_gop rfl (fun _ => ?_) (fun hh => nomatch hh)
              refine w_mv_ptr (evs' (gsn rfl (gsn rfl (gsn rfl (gsn rfl (gsn rfl (gsn rfl f_p7))))))) ?_
              refine w_gop rfl (fun _ => ?_) (fun hh => nomatch hh)
              refine w_mv_int (evs' (gsn rfl gse)) ?_
              refine w_gop rfl (fun _ => ?_) (fun hh => nomatch hh)
              refine w_sub rfl rfl (wr64 (by omega) (by omega)) ?_
              refine w_gop rfl (fun _ => ?_) (fun hh => nomatch hh)
              refine w_mv_int (evs' (gsn rfl (gsn rfl (gsn rfl (gsn rfl gse))))) ?_
              refine w_gcall rfl (fun _ => ?_) (fun hh => nomatch hh)
              refine w_call (holds_ok _ _ _ n2 _ _ _ _ _ _ _ _ _ hb_n2 Z nf_n2_Z lt_n2 (by first | omega | simp) (by omega) (fun h10 t10 ht10 hq Sq kp10 => ?_))
              have hb_n1 := kp10.get hb_n1 lt_n1 (ni1 (by omega))
              have hb_n3 := kp10.get hb_n3 lt_n3 (ni1 (by omega))
              have U := U.keep kp10 (nF1 nf_n2_U)
              have A := A.keep kp10 (nF1 nf_n2_A)
              have lt_n1 := kp10.lt lt_n1
              have lt_n2 := kp10.lt lt_n2
              have lt_n3 := kp10.lt lt_n3
              have hr : rd ((untilF (max (max u0 u1) 0) now lea) - 1) (untilF (max (min u0 u1) 0) now lea) = ((untilF (max (max u0 u1) 0) now lea) - 1) := by unfold rd; omega
              rw [hr] at hq ht10
              have hu10 : untilF (max (max u0 u1) 0) ((untilF (max (max u0 u1) 0) now lea) - 1) lea = max ((untilF (max (max u0 u1) 0) now lea) - 1) (untilF (max (max u0 u1) 0) now lea) := untilF_up lea (by omega)
              rw [hu10] at ht10
              have hb_n2 := hq
              have Z := Sq
              obtain rfl : t10 = true := by rw [ht10]; exact decide_eq_true (by omega)
              refine w_gop rfl (fun _ => ?_) (fun hh => nomatch hh)
              refine w_not rfl ?_
              refine w_gop rfl (fun _ => ?_) (fun hh => nomatch hh)
              refine w_pick rfl (fun _ => ?_) (fun hh => nomatch hh)
              refine w_mv_bool rfl ?_
              refine w_pick rfl (fun hh => nomatch hh) (fun _ => ?_)
              refine w_mv_bool rfl ?_
              refine w_mv_bool rfl ?_
              refine w_gop rfl (fun _ => ?_) (fun hh => nomatch hh)
              refine w_mv_ptr (evs' (gsn rfl (gsn rfl (gsn rfl (gsn rfl (gsn rfl (gsn rfl f_p7))))))) ?_
              refine w_gop rfl (fun _ => ?_) (fun hh => nomatch hh)
              refine w_mv_int (evs' (gsn rfl gse)) ?_
              refine w_gop rfl (fun _ => ?_) (fun hh => nomatch hh)
              refine w_mv_int (evs' (gsn rfl (gsn rfl (gsn rfl (gsn rfl gse))))) ?_
              refine w_gcall rfl (fun _ => ?_) (fun hh => nomatch hh)
              refine w_call (holds_ok _ _ _ n2 _ _ _ _ _ _ _ _ _ hb_n2 Z nf_n2_Z lt_n2 (by first | omega | simp) (by omega) (fun h11 t11 ht11 hq Sq kp11 => ?_))
              have hb_n1 := kp11.get hb_n1 lt_n1 (ni1 (by omega))
              have hb_n3 := kp11.get hb_n3 lt_n3 (ni1 (by omega))
              have U := U.keep kp11 (nF1 nf_n2_U)
              have A := A.keep kp11 (nF1 nf_n2_A)
              have lt_n1 := kp11.lt lt_n1
              have lt_n2 := kp11.lt lt_n2
              have lt_n3 := kp11.lt lt_n3
              have hr : rd (untilF (max (max u0 u1) 0) now lea) ((untilF (max (max u0 u1) 0) now lea) - 1) = (untilF (max (max u0 u1) 0) now lea) := by unfold rd; omega
              rw [hr] at hq ht11
              have hu11 : untilF (max (max u0 u1) 0) (untilF (max (max u0 u1) 0) now lea) lea = max (untilF (max (max u0 u1) 0) now lea) (untilF (max (max u0 u1) 0) now lea) := untilF_up lea (by omega)
              rw [hu11] at ht11
              have hb_n2 := hq
              have Z := Sq
              obtain rfl : t11 = false := by rw [ht11]; exact decide_eq_false (by omega)
              refine w_pick rfl (fun hh => nomatch hh) (fun _ => ?_)
              refine w_mv_bool rfl ?_
              refine w_kp ?_
              refine w_nil ?_
              refine w_cond (evs' gse) (fun hh => nomatch hh) (fun _ => ?_)
              refine w_skip ?_
              refine w_seq ?_
              refine w_reg ?_
              refine w_mv_ptr (evs' (gsn rfl (gsn rfl (gsn rfl (gsn rfl (gsn rfl (gsn rfl (gsn rfl f_p7)))))))) ?_
              refine w_call (drop_ok _ _ _ n2 _ _ _ _ _ hb_n2 lt_n2 U.flat Z.flat (fun h12 hq kp12 => ?_))
              have hb_n1 := kp12.get hb_n1 lt_n1 (ni1 (by omega))
              have hb_n3 := kp12.get hb_n3 lt_n3 (ni1 (by omega))
              have U := U.keep kp12 (nF1 nf_n2_U)
              have Z := Z.keep kp12 (nF1 nf_n2_Z)
              have A := A.keep kp12 (nF1 nf_n2_A)
              have lt_n1 := kp12.lt lt_n1
              have lt_n2 := kp12.lt lt_n2
              have lt_n3 := kp12.lt lt_n3
              have hb_n2 := hq
              have E1 := Sl.nilsl 1 h12
              have E2 : Sl 2 h12 .nilsl [] (([] : List (Int × Int)).map le) := Sl.nilsl 2 h12
              have nf_n1_E1 : n1 ∉ ([] : List P) := ni0
              have nf_n1_E2 : n1 ∉ ([] : List P) := ni0
              have nf_n2_E1 : n2 ∉ ([] : List P) := ni0
              have nf_n2_E2 : n2 ∉ ([] : List P) := ni0
              have nf_n3_E1 : n3 ∉ ([] : List P) := ni0
              have nf_n3_E2 : n3 ∉ ([] : List P) := ni0
              have dj_E1_E2 : ∀ x ∈ ([] : List P), x ∉ ([] : List P) := nF0
              have dj_E2_E1 : ∀ x ∈ ([] : List P), x ∉ ([] : List P) := nF0
              refine w_nil ?_
              refine w_seq ?_
              refine w_reg ?_
              refine w_mv_ptr (evs' (gsn rfl (gsn rfl (gsn rfl (gsn rfl (gsn rfl (gsn rfl (gsn rfl f_p7)))))))) ?_
              refine w_call (holds_ok _ _ _ n2 _ _ _ _ _ _ _ _ _ hb_n2 E2 nf_n2_E2 lt_n2 (by first | omega | simp) (by omega) (fun h13 t13 ht13 hq Sq kp13 => ?_))
              have hb_n1 := kp13.get hb_n1 lt_n1 (ni1 (by omega))
              have hb_n3 := kp13.get hb_n3 lt_n3 (ni1 (by omega))
              have E1 := E1.keep kp13 (nF1 nf_n2_E1)
              have lt_n1 := kp13.lt lt_n1
              have lt_n2 := kp13.lt lt_n2
              have lt_n3 := kp13.lt lt_n3
              have hr : rd 0 (untilF (max (max u0 u1) 0) now lea) = (untilF (max (max u0 u1) 0) now lea) := by unfold rd; omega
              rw [hr] at hq ht13
              have hb_n2 := hq
              have E2 := Sq
              obtain rfl : t13 = false := by rw [ht13]; exact decide_eq_false (by simp [untilF])
              refine w_not rfl ?_
              refine w_mv_bool rfl ?_
              refine w_gop rfl (fun _ => ?_) (fun hh => nomatch hh)
              refine w_mv_ptr (evs' (gsn rfl (gsn rfl (gsn rfl (gsn rfl (gsn rfl (gsn rfl (gsn rfl f_p7)))))))) ?_
              refine w_gop rfl (fun _ => ?_) (fun hh => nomatch hh)
              refine w_ldn (evs' (gsn rfl (gsn rfl (gsn rfl (gsn rfl (gsn rfl (gsn rfl (gsn rfl f_p9)))))))) hb_n3 rfl ?_
              refine w_gcall rfl (fun _ => ?_) (fun hh => nomatch hh)
              refine w_call (take_unknown _ _ _ n2 _ _ _ _ _ _ _ _ _ _ _ hb_n2 E1 nf_n2_E1 lt_n2 (by first | omega | simp) (by omega) (fun e he => nomatch he) (fun h14 hq Sq kp14 => ?_))
              have hb_n1 := kp14.get hb_n1 lt_n1 (ni1 (by omega))
              have hb_n3 := kp14.get hb_n3 lt_n3 (ni1 (by omega))
              have E2 := E2.keep kp14 (nF1 nf_n2_E2)
              have lt_n1 := kp14.lt lt_n1
              have lt_n2 := kp14.lt lt_n2
              have lt_n3 := kp14.lt lt_n3
              have hb_n2 := hq
              have E1 := Sq
              have hr : rd 0 (untilF (max (max u0 u1) 0) now lea) = (untilF (max (max u0 u1) 0) now lea) := by unfold rd; omega
              rw [hr] at hb_n2
              refine w_gop rfl (fun _ => ?_) (fun hh => nomatch hh)
              refine w_not rfl ?_
              refine w_pick rfl (fun _ => ?_) (fun hh => nomatch hh)
              refine w_mv_bool rfl ?_
              refine w_mv_bool rfl ?_
              refine w_gop rfl (fun _ => ?_) (fun hh => nomatch hh)
              refine w_mv_ptr (evs' (gsn rfl (gsn rfl (gsn rfl (gsn rfl (gsn rfl (gsn rfl (gsn rfl f_p7)))))))) ?_
              refine w_gcall rfl (fun _ => ?_) (fun hh => nomatch hh)
              refine w_call (until_ok _ _ _ n2 _ _ _ _ _ _ _ _ _ hb_n2 E2 nf_n2_E2 lt_n2 (by simp) (by omega) (fun h15 hq Sq kp15 => ?_))
              have hb_n1 := kp15.get hb_n1 lt_n1 (ni1 (by omega))
              have hb_n3 := kp15.get hb_n3 lt_n3 (ni1 (by omega))
              have E1 := E1.keep kp15 (nF1 nf_n2_E1)
              have lt_n1 := kp15.lt lt_n1
              have lt_n2 := kp15.lt lt_n2
              have lt_n3 := kp15.lt lt_n3
              have hr : rd 0 (untilF (max (max u0 u1) 0) now lea) = (untilF (max (max u0 u1) 0) now lea) := by unfold rd; omega
              rw [hr] at hq ⊢
              have hu9 : untilF (max 1073741824 0) (untilF (max (max u0 u1) 0) now lea) [] = (untilF (max (max u0 u1) 0) now lea) := rfl
              rw [hu9]
              have hb_n2 := hq
              have E2 := Sq
              refine w_gop rfl (fun _ => ?_) (fun hh => nomatch hh)
              refine w_mv_int (evs' (gsn rfl (gsn rfl gse))) ?_
              refine w_gop rfl (fun _ => ?_) (fun hh => nomatch hh)
              refine w_ieq rfl rfl (fun c19 => ?_) (fun c19 => absurd rfl c19)
              refine w_pick rfl (fun _ => ?_) (fun hh => nomatch hh)
              refine w_mv_bool rfl ?_
              refine w_mv_bool rfl ?_
              refine w_kp ?_
              refine w_nil ?_
              refine w_ret ?_
              refine ens_ret1 gse ?_
              exact rfl
            ·
              refine w_gop rfl (fun _ => ?_) (fun hh => nomatch hh)
              refine w_mv_bool rfl ?_
              refine w_gop rfl (fun hh => nomatch hh) (fun _ => ?_)
              refine w_gop rfl (fun hh => nomatch hh) (fun _ => ?_)
              refine w_gop rfl (fun hh => nomatch hh) (fun _ => ?_)
              refine w_gop rfl (fun hh => nomatch hh) (fun _ => ?_)
              refine w_gcall rfl (fun hh => nomatch hh) (fun _ => ?_)
              refine w_gop rfl (fun hh => nomatch hh) (fun _ => ?_)
              refine w_gop rfl (fun _ => ?_) (fun hh => nomatch hh)
              refine w_pick rfl (fun hh => nomatch hh) (fun _ => ?_)
              refine w_mv_bool rfl ?_
              refine w_pick rfl (fun hh => nomatch hh) (fun _ => ?_)
              refine w_mv_bool rfl ?_
              refine w_mv_bool rfl ?_
              refine w_gop rfl (fun _ => ?_) (fun hh => nomatch hh)
              refine w_mv_ptr (evs' (gsn rfl (gsn rfl (gsn rfl (gsn rfl (gsn rfl (gsn rfl f_p7))))))) ?_
              refine w_gop rfl (fun _ => ?_) (fun hh => nomatch hh)
              refine w_mv_int (evs' (gsn rfl gse)) ?_
              refine w_gop rfl (fun _ => ?_) (fun hh => nomatch hh)
              refine w_mv_int (evs' (gsn rfl (gsn rfl (gsn rfl (gsn rfl gse))))) ?_
              refine w_gcall rfl (fun _ => ?_) (fun hh => nomatch hh)
              refine w_call (holds_ok _ _ _ n2 _ _ _ _ _ _ _ _ _ hb_n2 Z nf_n2_Z lt_n2 (by first | omega | simp) (by omega) (fun h10 t10 ht10 hq Sq kp10 => ?_))
              have hb_n1 := kp10.get hb_n1 lt_n1 (ni1 (by omega))
              have hb_n3 := kp10.get hb_n3 lt_n3 (ni1 (by omega))
              have U := U.keep kp10 (nF1 nf_n2_U)
              have A := A.keep kp10 (nF1 nf_n2_A)
              have lt_n1 := kp10.lt lt_n1
              have lt_n2 := kp10.lt lt_n2
              have lt_n3 := kp10.lt lt_n3
              have hr : rd (untilF (max (max u0 u1) 0) now lea) (untilF (max (min u0 u1) 0) now lea) = (untilF (max (max u0 u1) 0) now lea) := by unfold rd; omega
              rw [hr] at hq ht10
              have hu10 : untilF (max (max u0 u1) 0) (untilF (max (max u0 u1) 0) now lea) lea = max (untilF (max (max u0 u1) 0) now lea) (untilF (max (max u0 u1) 0) now lea) := untilF_up lea (by omega)
              rw [hu10] at ht10
              have hb_n2 := hq
              have Z := Sq
              obtain rfl : t10 = false := by rw [ht10]; exact decide_eq_false (by omega)
              refine w_pick rfl (fun hh => nomatch hh) (fun _ => ?_)
              refine w_mv_bool rfl ?_
              refine w_kp ?_
              refine w_nil ?_
              refine w_cond (evs' gse) (fun hh => nomatch hh) (fun _ => ?_)
              refine w_skip ?_
              refine w_seq ?_
              refine w_reg ?_
              refine w_mv_ptr (evs' (gsn rfl (gsn rfl (gsn rfl (gsn rfl (gsn rfl (gsn rfl (gsn rfl f_p7)))))))) ?_
              refine w_call (drop_ok _ _ _ n2 _ _ _ _ _ hb_n2 lt_n2 U.flat Z.flat (fun h11 hq kp11 => ?_))
              have hb_n1 := kp11.get hb_n1 lt_n1 (ni1 (by omega))
              have hb_n3 := kp11.get hb_n3 lt_n3 (ni1 (by omega))
              have U := U.keep kp11 (nF1 nf_n2_U)
              have Z := Z.keep kp11 (nF1 nf_n2_Z)
              have A := A.keep kp11 (nF1 nf_n2_A)
              have lt_n1 := kp11.lt lt_n1
              have lt_n2 := kp11.lt lt_n2
              have lt_n3 := kp11.lt lt_n3
              have hb_n2 := hq
              have E1 := Sl.nilsl 1 h11
              have E2 : Sl 2 h11 .nilsl [] (([] : List (Int × Int)).map le) := Sl.nilsl 2 h11
              have nf_n1_E1 : n1 ∉ ([] : List P) := ni0
              have nf_n1_E2 : n1 ∉ ([] : List P) := ni0
              have nf_n2_E1 : n2 ∉ ([] : List P) := ni0
              have nf_n2_E2 : n2 ∉ ([] : List P) := ni0
              have nf_n3_E1 : n3 ∉ ([] : List P) := ni0
              have nf_n3_E2 : n3 ∉ ([] : List P) := ni0
              have dj_E1_E2 : ∀ x ∈ ([] : List P), x ∉ ([] : List P) := nF0
              have dj_E2_E1 : ∀ x ∈ ([] : List P), x ∉ ([] : List P) := nF0
              refine w_nil ?_
              refine w_seq ?_
              refine w_reg ?_
              refine w_mv_ptr (evs' (gsn rfl (gsn rfl (gsn rfl (gsn rfl (gsn rfl (gsn rfl (gsn rfl f_p7)))))))) ?_
              refine w_call (holds_ok _ _ _ n2 _ _ _ _ _ _ _ _ _ hb_n2 E2 nf_n2_E2 lt_n2 (by first | omega | simp) (by omega) (fun h12 t12 ht12 hq Sq kp12 => ?_))
              have hb_n1 := kp12.get hb_n1 lt_n1 (ni1 (by omega))
              have hb_n3 := kp12.get hb_n3 lt_n3 (ni1 (by omega))
              have E1 := E1.keep kp12 (nF1 nf_n2_E1)
              have lt_n1 := kp12.lt lt_n1
              have lt_n2 := kp12.lt lt_n2
              have lt_n3 := kp12.lt lt_n3
              have hr : rd 0 (untilF (max (max u0 u1) 0) now lea) = (untilF (max (max u0 u1) 0) now lea) := by unfold rd; omega
              rw [hr] at hq ht12
              have hb_n2 := hq
              have E2 := Sq
              obtain rfl : t12 = false := by rw [ht12]; exact decide_eq_false (by simp [untilF])
              refine w_not rfl ?_
              refine w_mv_bool rfl ?_
              refine w_gop rfl (fun _ => ?_) (fun hh => nomatch hh)
              refine w_mv_ptr (evs' (gsn rfl (gsn rfl (gsn rfl (gsn rfl (gsn rfl (gsn rfl (gsn rfl f_p7)))))))) ?_
              refine w_gop rfl (fun _ => ?_) (fun hh => nomatch hh)
              refine w_ldn (evs' (gsn rfl (gsn rfl (gsn rfl (gsn rfl (gsn rfl (gsn rfl (gsn rfl f_p9)))))))) hb_n3 rfl ?_
              refine w_gcall rfl (fun _ => ?_) (fun hh => nomatch hh)
              refine w_call (take_unknown _ _ _ n2 _ _ _ _ _ _ _ _ _ _ _ hb_n2 E1 nf_n2_E1 lt_n2 (by first | omega | simp) (by omega) (fun e he => nomatch he) (fun h13 hq Sq kp13 => ?_))
              have hb_n1 := kp13.get hb_n1 lt_n1 (ni1 (by omega))
              have hb_n3 := kp13.get hb_n3 lt_n3 (ni1 (by omega))
              have E2 := E2.keep kp13 (nF1 nf_n2_E2)
              have lt_n1 := kp13.lt lt_n1
              have lt_n2 := kp13.lt lt_n2
              have lt_n3 := kp13.lt lt_n3
              have hb_n2 := hq
              have E1 := Sq
              have hr : rd 0 (untilF (max (max u0 u1) 0) now lea) = (untilF (max (max u0 u1) 0) now lea) := by unfold rd; omega
              rw [hr] at hb_n2
              refine w_gop rfl (fun _ => ?_) (fun hh => nomatch hh)
              refine w_not rfl ?_
              refine w_pick rfl (fun _ => ?_) (fun hh => nomatch hh)
              refine w_mv_bool rfl ?_
              refine w_mv_bool rfl ?_
              refine w_gop rfl (fun _ => ?_) (fun hh => nomatch hh)
              refine w_mv_ptr (evs' (gsn rfl (gsn rfl (gsn rfl (gsn rfl (gsn rfl (gsn rfl (gsn rfl f_p7)))))))) ?_
              refine w_gcall rfl (fun _ => ?_) (fun hh => nomatch hh)
              refine w_call (until_ok _ _ _ n2 _ _ _ _ _ _ _ _ _ hb_n2 E2 nf_n2_E2 lt_n2 (by simp) (by omega) (fun h14 hq Sq kp14 => ?_))
              have hb_n1 := kp14.get hb_n1 lt_n1 (ni1 (by omega))
              have hb_n3 := kp14.get hb_n3 lt_n3 (ni1 (by omega))
              have E1 := E1.keep kp14 (nF1 nf_n2_E1)
              have lt_n1 := kp14.lt lt_n1
              have lt_n2 := kp14.lt lt_n2
              have lt_n3 := kp14.lt lt_n3
              have hr : rd 0 (untilF (max (max u0 u1) 0) now lea) = (untilF (max (max u0 u1) 0) now lea) := by unfold rd; omega
              rw [hr] at hq ⊢
              have hu9 : untilF (max 1073741824 0) (untilF (max (max u0 u1) 0) now lea) [] = (untilF (max (max u0 u1) 0) now lea) := rfl
              rw [hu9]
              have hb_n2 := hq
              have E2 := Sq
              refine w_gop rfl (fun _ => ?_) (fun hh => nomatch hh)
              refine w_mv_int (evs' (gsn rfl (gsn rfl gse))) ?_
              refine w_gop rfl (fun _ => ?_) (fun hh => nomatch hh)
              refine w_ieq rfl rfl (fun c20 => ?_) (fun c20 => absurd rfl c20)
              refine w_pick rfl (fun _ => ?_) (fun hh => nomatch hh)
              refine w_mv_bool rfl ?_
              refine w_mv_bool rfl ?_
              refine w_kp ?_
              refine w_nil ?_
              refine w_ret ?_
              refine ens_ret1 gse ?_
              exact rfl
          ·
            refine w_mv_bool rfl ?_
            refine w_gop rfl (fun hh => nomatch hh) (fun _ => ?_)
            refine w_gop rfl (fun hh => nomatch hh) (fun _ => ?_)
            refine w_gop rfl (fun hh => nomatch hh) (fun _ => ?_)
            refine w_gop rfl (fun hh => nomatch hh) (fun _ => ?_)
            refine w_gcall rfl (fun hh => nomatch hh) (fun _ => ?_)
            refine w_gop rfl (fun hh => nomatch hh) (fun _ => ?_)
            refine w_pick rfl (fun hh => nomatch hh) (fun _ => ?_)
            refine w_mv_bool rfl ?_
            refine w_mv_bool rfl ?_
            refine w_gop rfl (fun _ => ?_) (fun hh => nomatch hh)
            refine w_mv_ptr (evs' (gsn rfl (gsn rfl (gsn rfl (gsn rfl (gsn rfl (gsn rfl f_p7))))))) ?_
            refine w_gop rfl (fun _ => ?_) (fun hh => nomatch hh)
            refine w_mv_int (evs' (gsn rfl (gsn rfl gse))) ?_
            refine w_gop rfl (fun _ => ?_) (fun hh => nomatch hh)
            refine w_mv_int (evs' (gsn rfl (gsn rfl (gsn rfl gse)))) ?_
            refine w_gcall rfl (fun _ => ?_) (fun hh => nomatch hh)
            refine w_call (holds_ok _ _ _ n2 _ _ _ _ _ _ _ _ _ hb_n2 Z nf_n2_Z lt_n2 (by first | omega | simp) (by omega) (fun h8 t8 ht8 hq Sq kp8 => ?_))
            have hb_n1 := kp8.get hb_n1 lt_n1 (ni1 (by omega))
            have hb_n3 := kp8.get hb_n3 lt_n3 (ni1 (by omega))
            have U := U.keep kp8 (nF1 nf_n2_U)
            have A := A.keep kp8 (nF1 nf_n2_A)
            have lt_n1 := kp8.lt lt_n1
            have lt_n2 := kp8.lt lt_n2
            have lt_n3 := kp8.lt lt_n3
            have hr : rd (untilF (max (min u0 u1) 0) now lea) now = (untilF (max (min u0 u1) 0) now lea) := by unfold rd; omega
            rw [hr] at hq ht8
            have hu8 : untilF (max (min u0 u1) 0) (untilF (max (min u0 u1) 0) now lea) lea = max (untilF (max (min u0 u1) 0) now lea) (untilF (max (min u0 u1) 0) now lea) := untilF_up lea (by omega)
            rw [hu8] at ht8
            have hb_n2 := hq
            have Z := Sq
            obtain rfl : t8 = false := by rw [ht8]; exact decide_eq_false (by omega)
            refine w_pick rfl (fun hh => nomatch hh) (fun _ => ?_)
            refine w_mv_bool rfl ?_
            refine w_mv_bool rfl ?_
            refine w_gop rfl (fun _ => ?_) (fun hh => nomatch hh)
            refine w_mv_int (evs' (gsn rfl gse)) ?_
            refine w_gop rfl (fun _ => ?_) (fun hh => nomatch hh)
            refine w_mv_int (evs' (gsn rfl (gsn rfl gse))) ?_
            refine w_gop rfl (fun _ => ?_) (fun hh => nomatch hh)
            refine w_gt rfl rfl (fun c21 => ?_) (fun c21 => ?_)
            ·
              refine w_gop rfl (fun _ => ?_) (fun hh => nomatch hh)
              refine w_mv_bool rfl ?_
              refine w_gop rfl (fun _ => ?_) (fun hh => nomatch hh)
              refine w_mv_ptr (evs' (gsn rfl (gsn rfl (gsn rfl (gsn rfl (gsn rfl (gsn rfl f_p7))))))) ?_
              refine w_gop rfl (fun _ => ?_) (fun hh => nomatch hh)
              refine w_mv_int (evs' (gsn rfl gse)) ?_
              refine w_gop rfl (fun _ => ?_) (fun hh => nomatch hh)
              refine w_sub rfl rfl (wr64 (by omega) (by omega)) ?_
              refine w_gop rfl (fun _ => ?_) (fun hh => nomatch hh)
              refine w_mv_int (evs' (gsn rfl (gsn rfl (gsn rfl (gsn rfl gse))))) ?_
              refine w_gcall rfl (fun _ => ?_) (fun hh => nomatch hh)
              refine w_call (holds_ok _ _ _ n2 _ _ _ _ _ _ _ _ _ hb_n2 Z nf_n2_Z lt_n2 (by first | omega | simp) (by omega) (fun h9 t9 ht9 hq Sq kp9 => ?_))
              have hb_n1 := kp9.get hb_n1 lt_n1 (ni1 (by omega))
              have hb_n3 := kp9.get hb_n3 lt_n3 (ni1 (by omega))
              have U := U.keep kp9 (nF1 nf_n2_U)
              have A := A.keep kp9 (nF1 nf_n2_A)
              have lt_n1 := kp9.lt lt_n1
              have lt_n2 := kp9.lt lt_n2
              have lt_n3 := kp9.lt lt_n3
              have hr : rd ((untilF (max (max u0 u1) 0) now lea) - 1) (untilF (max (min u0 u1) 0) now lea) = ((untilF (max (max u0 u1) 0) now lea) - 1) := by unfold rd; omega
              rw [hr] at hq ht9
              have hu9 : untilF (max (max u0 u1) 0) ((untilF (max (max u0 u1) 0) now lea) - 1) lea = max ((untilF (max (max u0 u1) 0) now lea) - 1) (untilF (max (max u0 u1) 0) now lea) := untilF_up lea (by omega)
              rw [hu9] at ht9
              have hb_n2 := hq
              have Z := Sq
              obtain rfl : t9 = true := by rw [ht9]; exact decide_eq_true (by omega)
              refine w_gop rfl (fun _ => ?_) (fun hh => nomatch hh)
              refine w_not rfl ?_
              refine w_gop rfl (fun _ => ?_) (fun hh => nomatch hh)
              refine w_pick rfl (fun _ => ?_) (fun hh => nomatch hh)
              refine w_mv_bool rfl ?_
              refine w_pick rfl (fun hh => nomatch hh) (fun _ => ?_)
              refine w_mv_bool rfl ?_
              refine w_mv_bool rfl ?_
              refine w_gop rfl (fun _ => ?_) (fun hh => nomatch hh)
              refine w_mv_ptr (evs' (gsn rfl (gsn rfl (gsn rfl (gsn rfl (gsn rfl (gsn rfl f_p7))))))) ?_
              refine w_gop rfl (fun _ => ?_) (fun hh => nomatch hh)
              refine w_mv_int (evs' (gsn rfl gse)) ?_
              refine w_gop rfl (fun _ => ?_) (fun hh => nomatch hh)
              refine w_mv_int (evs' (gsn rfl (gsn rfl (gsn rfl (gsn rfl gse))))) ?_
              refine w_gcall rfl (fun _ => ?_) (fun hh => nomatch hh)
              refine w_call (holds_ok _ _ _ n2 _ _ _ _ _ _ _ _ _ hb_n2 Z nf_n2_Z lt_n2 (by first | omega | simp) (by omega) (fun h10 t10 ht10 hq Sq kp10 => ?_))
              have hb_n1 := kp10.get hb_n1 lt_n1 (ni1 (by omega))
              have hb_n3 := kp10.get hb_n3 lt_n3 (ni1 (by omega))
              have U := U.keep kp10 (nF1 nf_n2_U)
              have A := A.keep kp10 (nF1 nf_n2_A)
              have lt_n1 := kp10.lt lt_n1
              have lt_n2 := kp10.lt lt_n2
              have lt_n3 := kp10.lt lt_n3
              have hr : rd (untilF (max (max u0 u1) 0) now lea) ((untilF (max (max u0 u1) 0) now lea) - 1) = (untilF (max (max u0 u1) 0) now lea) := by unfold rd; omega
              rw [hr] at hq ht10
              have hu10 : untilF (max (max u0 u1) 0) (untilF (max (max u0 u1) 0) now lea) lea = max (untilF (max (max u0 u1) 0) now lea) (untilF (max (max u0 u1) 0) now lea) := untilF_up lea (by omega)
              rw [hu10] at ht10
              have hb_n2 := hq
              have Z := Sq
              obtain rfl : t10 = false := by rw [ht10]; exact decide_eq_false (by omega)
              refine w_pick rfl (fun hh => nomatch hh) (fun _ => ?_)
              refine w_mv_bool rfl ?_
              refine w_kp ?_
              refine w_nil ?_
              refine w_cond (evs' gse) (fun hh => nomatch hh) (fun _ => ?_)
              refine w_skip ?_
              refine w_seq ?_
              refine w_reg ?_
              refine w_mv_ptr (evs' (gsn rfl (gsn rfl (gsn rfl (gsn rfl (gsn rfl (gsn rfl (gsn rfl f_p7)))))))) ?_
              refine w_call (drop_ok _ _ _ n2 _ _ _ _ _ hb_n2 lt_n2 U.flat Z.flat (fun h11 hq kp11 => ?_))
              have hb_n1 := kp11.get hb_n1 lt_n1 (ni1 (by omega))
              have hb_n3 := kp11.get hb_n3 lt_n3 (ni1 (by omega))
              have U := U.keep kp11 (nF1 nf_n2_U)
              have Z := Z.keep kp11 (nF1 nf_n2_Z)
              have A := A.keep kp11 (nF1 nf_n2_A)
              have lt_n1 := kp11.lt lt_n1
              have lt_n2 := kp11.lt lt_n2
              have lt_n3 := kp11.lt lt_n3
              have hb_n2 := hq
              have E1 := Sl.nilsl 1 h11
              have E2 : Sl 2 h11 .nilsl [] (([] : List (Int × Int)).map le) := Sl.nilsl 2 h11
              have nf_n1_E1 : n1 ∉ ([] : List P) := ni0
              have nf_n1_E2 : n1 ∉ ([] : List P) := ni0
              have nf_n2_E1 : n2 ∉ ([] : List P) := ni0
              have nf_n2_E2 : n2 ∉ ([] : List P) := ni0
              have nf_n3_E1 : n3 ∉ ([] : List P) := ni0
              have nf_n3_E2 : n3 ∉ ([] : List P) := ni0
              have dj_E1_E2 : ∀ x ∈ ([] : List P), x ∉ ([] : List P) := nF0
              have dj_E2_E1 : ∀ x ∈ ([] : List P), x ∉ ([] : List P) := nF0
              refine w_nil ?_
              refine w_seq ?_
              refine w_reg ?_
              refine w_mv_ptr (evs' (gsn rfl (gsn rfl (gsn rfl (gsn rfl (gsn rfl (gsn rfl (gsn rfl f_p7)))))))) ?_
              refine w_call (holds_ok _ _ _ n2 _ _ _ _ _ _ _ _ _ hb_n2 E2 nf_n2_E2 lt_n2 (by first | omega | simp) (by omega) (fun h12 t12 ht12 hq Sq kp12 => ?_))
              have hb_n1 := kp12.get hb_n1 lt_n1 (ni1 (by omega))
              have hb_n3 := kp12.get hb_n3 lt_n3 (ni1 (by omega))
              have E1 := E1.keep kp12 (nF1 nf_n2_E1)
              have lt_n1 := kp12.lt lt_n1
              have lt_n2 := kp12.lt lt_n2
              have lt_n3 := kp12.lt lt_n3
              have hr : rd 0 (untilF (max (max u0 u1) 0) now lea) = (untilF (max (max u0 u1) 0) now lea) := by unfold rd; omega
              rw [hr] at hq ht12
              have hb_n2 := hq
              have E2 := Sq
              obtain rfl : t12 = false := by rw [ht12]; exact decide_eq_false (by simp [untilF])
              refine w_not rfl ?_
              refine w_mv_bool rfl ?_
              refine w_gop rfl (fun _ => ?_) (fun hh => nomatch hh)
              refine w_mv_ptr (evs' (gsn rfl (gsn rfl (gsn rfl (gsn rfl (gsn rfl (gsn rfl (gsn rfl f_p7)))))))) ?_
              refine w_gop rfl (fun _ => ?_) (fun hh => nomatch hh)
              refine w_ldn (evs' (gsn rfl (gsn rfl (gsn rfl (gsn rfl (gsn rfl (gsn rfl (gsn rfl f_p9)))))))) hb_n3 rfl ?_
              refine w_gcall rfl (fun _ => ?_) (fun hh => nomatch hh)
              refine w_call (take_unknown _ _ _ n2 _ _ _ _ _ _ _ _ _ _ _ hb_n2 E1 nf_n2_E1 lt_n2 (by first | omega | simp) (by omega) (fun e he => nomatch he) (fun h13 hq Sq kp13 => ?_))
              have hb_n1 := kp13.get hb_n1 lt_n1 (ni1 (by omega))
              have hb_n3 := kp13.get hb_n3 lt_n3 (ni1 (by omega))
              have E2 := E2.keep kp13 (nF1 nf_n2_E2)
              have lt_n1 := kp13.lt lt_n1
              have lt_n2 := kp13.lt lt_n2
              have lt_n3 := kp13.lt lt_n3
              have hb_n2 := hq
              have E1 := Sq
              have hr : rd 0 (untilF (max (max u0 u1) 0) now lea) = (untilF (max (max u0 u1) 0) now lea) := by unfold rd; omega
              rw [hr] at hb_n2
              refine w_gop rfl (fun _ => ?_) (fun hh => nomatch hh)
              refine w_not rfl ?_
              refine w_pick rfl (fun _ => ?_) (fun hh => nomatch hh)
              refine w_mv_bool rfl ?_
              refine w_mv_bool rfl ?_
              refine w_gop rfl (fun _ => ?_) (fun hh => nomatch hh)
              refine w_mv_ptr (evs' (gsn rfl (gsn rfl (gsn rfl (gsn rfl (gsn rfl (gsn rfl (gsn rfl f_p7)))))))) ?_
              refine w_gcall rfl (fun _ => ?_) (fun hh => nomatch hh)
              refine w_call (until_ok _ _ _ n2 _ _ _ _ _ _ _ _ _ hb_n2 E2 nf_n2_E2 lt_n2 (by simp) (by omega) (fun h14 hq Sq kp14 => ?_))
              have hb_n1 := kp14.get hb_n1 lt_n1 (ni1 (by omega))
              have hb_n3 := kp14.get hb_n3 lt_n3 (ni1 (by omega))
              have E1 := E1.keep kp14 (nF1 nf_n2_E1)
              have lt_n1 := kp14.lt lt_n1
              have lt_n2 := kp14.lt lt_n2
              have lt_n3 := kp14.lt lt_n3
              have hr : rd 0 (untilF (max (max u0 u1) 0) now lea) = (untilF (max (max u0 u1) 0) now lea) := by unfold rd; omega
              rw [hr] at hq ⊢
              have hu9 : untilF (max 1073741824 0) (untilF (max (max u0 u1) 0) now lea) [] = (untilF (max (max u0 u1) 0) now lea) := rfl
              rw [hu9]
              have hb_n2 := hq
              have E2 := Sq
              refine w_gop rfl (fun _ => ?_) (fun hh => nomatch hh)
              refine w_mv_int (evs' (gsn rfl (gsn rfl gse))) ?_
              refine w_gop rfl (fun _ => ?_) (fun hh => nomatch hh)
              refine w_ieq rfl rfl (fun c22 => ?_) (fun c22 => absurd rfl c22)
              refine w_pick rfl (fun _ => ?_) (fun hh => nomatch hh)
              refine w_mv_bool rfl ?_
              refine w_mv_bool rfl ?_
              refine w_kp ?_
              refine w_nil ?_
              refine w_ret ?_
              refine ens_ret1 gse ?_
              exact rfl
            ·
              refine w_gop rfl (fun _ => ?_) (fun hh => nomatch hh)
              refine w_mv_bool rfl ?_
              refine w_gop rfl (fun hh => nomatch hh) (fun _ => ?_)
              refine w_gop rfl (fun hh => nomatch hh) (fun _ => ?_)
              refine w_gop rfl (fun hh => nomatch hh) (fun _ => ?_)
              refine w_gop rfl (fun hh => nomatch hh) (fun _ => ?_)
              refine w_gcall rfl (fun hh => nomatch hh) (fun _ => ?_)
              refine w_gop rfl (fun hh => nomatch hh) (fun _ => ?_)
              refine w_gop rfl (fun _ => ?_) (fun hh => nomatch hh)
              refine w_pick rfl (fun hh => nomatch hh) (fun _ => ?_)
              refine w_mv_bool rfl ?_
              refine w_pick rfl (fun hh => nomatch hh) (fun _ => ?_)
              refine w_mv_bool rfl ?_
              refine w_mv_bool rfl ?_
              refine w_gop rfl (fun _ => ?_) (fun hh => nomatch hh)
              refine w_mv_ptr (evs' (gsn rfl (gsn rfl (gsn rfl (gsn rfl (gsn rfl (gsn rfl f_p7))))))) ?_
              refine w_gop rfl (fun _ => ?_) (fun hh => nomatch hh)
              refine w_mv_int (evs' (gsn rfl gse)) ?_
              refine w_gop rfl (fun _ => ?_) (fun hh => nomatch hh)
              refine w_mv_int (evs' (gsn rfl (gsn rfl (gsn rfl (gsn rfl gse))))) ?_
              refine w_gcall rfl (fun _ => ?_) (fun hh => nomatch hh)
              refine w_call (holds_ok _ _ _ n2 _ _ _ _ _ _ _ _ _ hb_n2 Z nf_n2_Z lt_n2 (by first | omega | simp) (by omega) (fun h9 t9 ht9 hq Sq kp9 => ?_))
              have hb_n1 := kp9.get hb_n1 lt_n1 (ni1 (by omega))
              have hb_n3 := kp9.get hb_n3 lt_n3 (ni1 (by omega))
              have U := U.keep kp9 (nF1 nf_n2_U)
              have A := A.keep kp9 (nF1 nf_n2_A)
              have lt_n1 := kp9.lt lt_n1
              have lt_n2 := kp9.lt lt_n2
              have lt_n3 := kp9.lt lt_n3
              have hr : rd (untilF (max (max u0 u1) 0) now lea) (untilF (max (min u0 u1) 0) now lea) = (untilF (max (max u0 u1) 0) now lea) := by unfold rd; omega
              rw [hr] at hq ht9
              have hu9 : untilF (max (max u0 u1) 0) (untilF (max (max u0 u1) 0) now lea) lea = max (untilF (max (max u0 u1) 0) now lea) (untilF (max (max u0 u1) 0) now lea) := untilF_up lea (by omega)
              rw [hu9] at ht9
              have hb_n2 := hq
              have Z := Sq
              obtain rfl : t9 = false := by rw [ht9]; exact decide_eq_false (by omega)
              refine w_pick rfl (fun hh => nomatch hh) (fun _ => ?_)
              refine w_mv_bool rfl ?_
              refine w_kp ?_
              refine w_nil ?_
              refine w_cond (evs' gse) (fun hh => nomatch hh) (fun _ => ?_)
              refine w_skip ?_
              refine w_seq ?_
              refine w_reg ?_
              refine w_mv_ptr (evs' (gsn rfl (gsn rfl (gsn rfl (gsn rfl (gsn rfl (gsn rfl (gsn rfl f_p7)))))))) ?_
              refine w_call (drop_ok _ _ _ n2 _ _ _ _ _ hb_n2 lt_n2 U.flat Z.flat (fun h10 hq kp10 => ?_))
              have hb_n1 := kp10.get hb_n1 lt_n1 (ni1 (by omega))
              have hb_n3 := kp10.get hb_n3 lt_n3 (ni1 (by omega))
              have U := U.keep kp10 (nF1 nf_n2_U)
              have Z := Z.keep kp10 (nF1 nf_n2_Z)
              have A := A.keep kp10 (nF1 nf_n2_A)
              have lt_n1 := kp10.lt lt_n1
              have lt_n2 := kp10.lt lt_n2
              have lt_n3 := kp10.lt lt_n3
              have hb_n2 := hq
              have E1 := Sl.nilsl 1 h10
              have E2 : Sl 2 h10 .nilsl [] (([] : List (Int × Int)).map le) := Sl.nilsl 2 h10
              have nf_n1_E1 : n1 ∉ ([] : List P) := ni0
              have nf_n1_E2 : n1 ∉ ([] : List P) := ni0
              have nf_n2_E1 : n2 ∉ ([] : List P) := ni0
              have nf_n2_E2 : n2 ∉ ([] : List P) := ni0
              have nf_n3_E1 : n3 ∉ ([] : List P) := ni0
              have nf_n3_E2 : n3 ∉ ([] : List P) := ni0
              have dj_E1_E2 : ∀ x ∈ ([] : List P), x ∉ ([] : List P) := nF0
              have dj_E2_E1 : ∀ x ∈ ([] : List P), x ∉ ([] : List P) := nF0
              refine w_nil ?_
              refine w_seq ?_
              refine w_reg ?_
              refine w_mv_ptr (evs' (gsn rfl (gsn rfl (gsn rfl (gsn rfl (gsn rfl (gsn rfl (gsn rfl f_p7)))))))) ?_
              refine w_call (holds_ok _ _ _ n2 _ _ _ _ _ _ _ _ _ hb_n2 E2 nf_n2_E2 lt_n2 (by first | omega | simp) (by omega) (fun h11 t11 ht11 hq Sq kp11 => ?_))
              have hb_n1 := kp11.get hb_n1 lt_n1 (ni1 (by omega))
              have hb_n3 := kp11.get hb_n3 lt_n3 (ni1 (by omega))
              have E1 := E1.keep kp11 (nF1 nf_n2_E1)
              have lt_n1 := kp11.lt lt_n1
              have lt_n2 := kp11.lt lt_n2
              have lt_n3 := kp11.lt lt_n3
              have hr : rd 0 (untilF (max (max u0 u1) 0) now lea) = (untilF (max (max u0 u1) 0) now lea) := by unfold rd; omega
              rw [hr] at hq ht11
              have hb_n2 := hq
              have E2 := Sq
              obtain rfl : t11 = false := by rw [ht11]; exact decide_eq_false (by simp [untilF])
              refine w_not rfl ?_
              refine w_mv_bool rfl ?_
              refine w_gop rfl (fun _ => ?_) (fun hh => nomatch hh)
              refine w_mv_ptr (evs' (gsn rfl (gsn rfl (gsn rfl (gsn rfl (gsn rfl (gsn rfl (gsn rfl f_p7)))))))) ?_
              refine w_gop rfl (fun _ => ?_) (fun hh => nomatch hh)
              refine w_ldn (evs' (gsn rfl (gsn rfl (gsn rfl (gsn rfl (gsn rfl (gsn rfl (gsn rfl f_p9)))))))) hb_n3 rfl ?_
              refine w_gcall rfl (fun _ => ?_) (fun hh => nomatch hh)
              refine w_call (take_unknown _ _ _ n2 _ _ _ _ _ _ _ _ _ _ _ hb_n2 E1 nf_n2_E1 lt_n2 (by first | omega | simp) (by omega) (fun e he => nomatch he) (fun h12 hq Sq kp12 => ?_))
              have hb_n1 := kp12.get hb_n1 lt_n1 (ni1 (by omega))
              have hb_n3 := kp12.get hb_n3 lt_n3 (ni1 (by omega))
              have E2 := E2.keep kp12 (nF1 nf_n2_E2)
              have lt_n1 := kp12.lt lt_n1
              have lt_n2 := kp12.lt lt_n2
              have lt_n3 := kp12.lt lt_n3
              have hb_n2 := hq
              have E1 := Sq
              have hr : rd 0 (untilF (max (max u0 u1) 0) now lea) = (untilF (max (max u0 u1) 0) now lea) := by unfold rd; omega
              rw [hr] at hb_n2
              refine w_gop rfl (fun _ => ?_) (fun hh => nomatch hh)
              refine w_not rfl ?_
              refine w_pick rfl (fun _ => ?_) (fun hh => nomatch hh)
              refine w_mv_bool rfl ?_
              refine w_mv_bool rfl ?_
              refine w_gop rfl (fun _ => ?_) (fun hh => nomatch hh)
              refine w_mv_ptr (evs' (gsn rfl (gsn rfl (gsn rfl (gsn rfl (gsn rfl (gsn rfl (gsn rfl f_p7)))))))) ?_
              refine w_gcall rfl (fun _ => ?_) (fun hh => nomatch hh)
              refine w_call (until_ok _ _ _ n2 _ _ _ _ _ _ _ _ _ hb_n2 E2 nf_n2_E2 lt_n2 (by simp) (by omega) (fun h13 hq Sq kp13 => ?_))
              have hb_n1 := kp13.get hb_n1 lt_n1 (ni1 (by omega))
              have hb_n3 := kp13.get hb_n3 lt_n3 (ni1 (by omega))
              have E1 := E1.keep kp13 (nF1 nf_n2_E1)
              have lt_n1 := kp13.lt lt_n1
              have lt_n2 := kp13.lt lt_n2
              have lt_n3 := kp13.lt lt_n3
              have hr : rd 0 (untilF (max (max u0 u1) 0) now lea) = (untilF (max (max u0 u1) 0) now lea) := by unfold rd; omega
              rw [hr] at hq ⊢
              have hu9 : untilF (max 1073741824 0) (untilF (max (max u0 u1) 0) now lea) [] = (untilF (max (max u0 u1) 0) now lea) := rfl
              rw [hu9]
              have hb_n2 := hq
              have E2 := Sq
              refine w_gop rfl (fun _ => ?_) (fun hh => nomatch hh)
              refine w_mv_int (evs' (gsn rfl (gsn rfl gse))) ?_
              refine w_gop rfl (fun _ => ?_) (fun hh => nomatch hh)
              refine w_ieq rfl rfl (fun c23 => ?_) (fun c23 => absurd rfl c23)
              refine w_pick rfl (fun _ => ?_) (fun hh => nomatch hh)
              refine w_mv_bool rfl ?_
              refine w_mv_bool rfl ?_
              refine w_kp ?_
              refine w_nil ?_
              refine w_ret ?_
              refine ens_ret1 gse ?_
              exact rfl
      ·
        have ht6 := of_decide_eq_true ht6.symm
        refine w_gop rfl (fun _ => ?_) (fun hh => nomatch hh)
        refine w_mv_int (evs' (gsn rfl gse)) ?_
        refine w_gop rfl (fun _ => ?_) (fun hh => nomatch hh)
        refine w_mv_int (evs' (gsn rfl (gsn rfl (gsn rfl (gsn rfl (gsn rfl f_p8)))))) ?_
        refine w_gop rfl (fun _ => ?_) (fun hh => nomatch hh)
        refine w_gt rfl rfl (fun c24 => ?_) (fun c24 => by omega)
        refine w_gop rfl (fun _ => ?_) (fun hh => nomatch hh)
        refine w_eqv (t' := false) rfl rfl rfl rfl ?_
        refine w_pick rfl (fun hh => nomatch hh) (fun _ => ?_)
        refine w_mv_bool rfl ?_
        refine w_mv_bool rfl ?_
        refine w_gop rfl (fun _ => ?_) (fun hh => nomatch hh)
        refine w_mv_ptr (evs' (gsn rfl (gsn rfl (gsn rfl (gsn rfl (gsn rfl f_p7)))))) ?_
        refine w_gop rfl (fun _ => ?_) (fun hh => nomatch hh)
        refine w_mv_int (evs' (gsn rfl (gsn rfl (gsn rfl (gsn rfl (gsn rfl f_p8)))))) ?_
        refine w_gop rfl (fun _ => ?_) (fun hh => nomatch hh)
        refine w_mv_int (evs' (gsn rfl (gsn rfl (gsn rfl gse)))) ?_
        refine w_gcall rfl (fun _ => ?_) (fun hh => nomatch hh)
        refine w_call (holds_ok _ _ _ n2 _ _ _ _ _ _ _ _ _ hb_n2 Z nf_n2_Z lt_n2 (by first | omega | simp) (by omega) (fun h7 t7 ht7 hq Sq kp7 => ?_))
        have hb_n1 := kp7.get hb_n1 lt_n1 (ni1 (by omega))
        have hb_n3 := kp7.get hb_n3 lt_n3 (ni1 (by omega))
        have U := U.keep kp7 (nF1 nf_n2_U)
        have A := A.keep kp7 (nF1 nf_n2_A)
        have lt_n1 := kp7.lt lt_n1
        have lt_n2 := kp7.lt lt_n2
        have lt_n3 := kp7.lt lt_n3
        have hr : rd now now = now := by unfold rd; omega
        rw [hr] at hq ht7
        have hu7 : untilF (max (max u0 u1) 0) now lea = max now (untilF (max (max u0 u1) 0) now lea) := untilF_up lea (by omega)
        rw [hu7] at ht7
        have hb_n2 := hq
        have Z := Sq
        cases t7
        ·
          have ht7 := of_decide_eq_false ht7.symm
          refine w_gop rfl (fun _ => ?_) (fun hh => nomatch hh)
          refine w_mv_int (evs' gse) ?_
          refine w_gop rfl (fun _ => ?_) (fun hh => nomatch hh)
          refine w_mv_int (evs' (gsn rfl (gsn rfl (gsn rfl (gsn rfl (gsn rfl f_p8)))))) ?_
          refine w_gop rfl (fun _ => ?_) (fun hh => nomatch hh)
          refine w_gt rfl rfl (fun c25 => by omega) (fun c25 => ?_)
          refine w_gop rfl (fun _ => ?_) (fun hh => nomatch hh)
          refine w_eqv (t' := false) rfl rfl rfl rfl ?_
          refine w_pick rfl (fun hh => nomatch hh) (fun _ => ?_)
          refine w_mv_bool rfl ?_
          refine w_kp ?_
          refine w_nil ?_
          refine w_cond (evs' gse) (fun hh => nomatch hh) (fun _ => ?_)
          refine w_skip ?_
          refine w_seq ?_
          refine w_seq ?_
          refine w_reg ?_
          refine w_mv_int (evs' (gsn rfl (gsn rfl gse))) ?_
          refine w_mv_int (evs' (gsn rfl (gsn rfl (gsn rfl (gsn rfl (gsn rfl (gsn rfl f_p8))))))) ?_
          refine w_gt rfl rfl (fun c26 => ?_) (fun c26 => ?_)
          ·
            refine w_mv_bool rfl ?_
            refine w_gop rfl (fun _ => ?_) (fun hh => nomatch hh)
            refine w_mv_ptr (evs' (gsn rfl (gsn rfl (gsn rfl (gsn rfl (gsn rfl (gsn rfl f_p7))))))) ?_
            refine w_gop rfl (fun _ => ?_) (fun hh => nomatch hh)
            refine w_mv_int (evs' (gsn rfl (gsn rfl gse))) ?_
            refine w_gop rfl (fun _ => ?_) (fun hh => nomatch hh)
            refine w_sub rfl rfl (wr64 (by omega) (by omega)) ?_
            refine w_gop rfl (fun _ => ?_) (fun hh => nomatch hh)
            refine w_mv_int (evs' (gsn rfl (gsn rfl (gsn rfl gse)))) ?_
            refine w_gcall rfl (fun _ => ?_) (fun hh => nomatch hh)
            refine w_call (holds_ok _ _ _ n2 _ _ _ _ _ _ _ _ _ hb_n2 Z nf_n2_Z lt_n2 (by first | omega | simp) (by omega) (fun h8 t8 ht8 hq Sq kp8 => ?_))
            have hb_n1 := kp8.get hb_n1 lt_n1 (ni1 (by omega))
            have hb_n3 := kp8.get hb_n3 lt_n3 (ni1 (by omega))
            have U := U.keep kp8 (nF1 nf_n2_U)
            have A := A.keep kp8 (nF1 nf_n2_A)
            have lt_n1 := kp8.lt lt_n1
            have lt_n2 := kp8.lt lt_n2
            have lt_n3 := kp8.lt lt_n3
            have hr : rd ((untilF (max (min u0 u1) 0) now lea) - 1) now = ((untilF (max (min u0 u1) 0) now lea) - 1) := by unfold rd; omega
            rw [hr] at hq ht8
            have hu8 : untilF (max (min u0 u1) 0) ((untilF (max (min u0 u1) 0) now lea) - 1) lea = max ((untilF (max (min u0 u1) 0) now lea) - 1) (untilF (max (min u0 u1) 0) now lea) := untilF_up lea (by omega)
            rw [hu8] at ht8
            have hb_n2 := hq
            have Z := Sq
            obtain rfl : t8 = true := by rw [ht8]; exact decide_eq_true (by omega)
            refine w_gop rfl (fun _ => ?_) (fun hh => nomatch hh)
            refine w_not rfl ?_
            refine w_pick rfl (fun _ => ?_) (fun hh => nomatch hh)
            refine w_mv_bool rfl ?_
            refine w_mv_bool rfl ?_
            refine w_gop rfl (fun _ => ?_) (fun hh => nomatch hh)
            refine w_mv_ptr (evs' (gsn rfl (gsn rfl (gsn rfl (gsn rfl (gsn rfl (gsn rfl f_p7))))))) ?_
            refine w_gop rfl (fun _ => ?_) (fun hh => nomatch hh)
            refine w_mv_int (evs' (gsn rfl (gsn rfl gse))) ?_
            refine w_gop rfl (fun _ => ?_) (fun hh => nomatch hh)
            refine w_mv_int (evs' (gsn rfl (gsn rfl (gsn rfl gse)))) ?_
            refine w_gcall rfl (fun _ => ?_) (fun hh => nomatch hh)
            refine w_call (holds_ok _ _ _ n2 _ _ _ _ _ _ _ _ _ hb_n2 Z nf_n2_Z lt_n2 (by first | omega | simp) (by omega) (fun h9 t9 ht9 hq Sq kp9 => ?_))
            have hb_n1 := kp9.get hb_n1 lt_n1 (ni1 (by omega))
            have hb_n3 := kp9.get hb_n3 lt_n3 (ni1 (by omega))
            have U := U.keep kp9 (nF1 nf_n2_U)
            have A := A.keep kp9 (nF1 nf_n2_A)
            have lt_n1 := kp9.lt lt_n1
            have lt_n2 := kp9.lt lt_n2
            have lt_n3 := kp9.lt lt_n3
            have hr : rd (untilF (max (min u0 u1) 0) now lea) ((untilF (max (min u0 u1) 0) now lea) - 1) = (untilF (max (min u0 u1) 0) now lea) := by unfold rd; omega
            rw [hr] at hq ht9
            have hu9 : untilF (max (min u0 u1) 0) (untilF (max (min u0 u1) 0) now lea) lea = max (untilF (max (min u0 u1) 0) now lea) (untilF (max (min u0 u1) 0) now lea) := untilF_up lea (by omega)
            rw [hu9] at ht9
            have hb_n2 := hq
            have Z := Sq
            obtain rfl : t9 = false := by rw [ht9]; exact decide_eq_false (by omega)
            refine w_pick rfl (fun hh => nomatch hh) (fun _ => ?_)
            refine w_mv_bool rfl ?_
            refine w_mv_bool rfl ?_
            refine w_gop rfl (fun _ => ?_) (fun hh => nomatch hh)
            refine w_mv_int (evs' (gsn rfl gse)) ?_
            refine w_gop rfl (fun _ => ?_) (fun hh => nomatch hh)
            refine w_mv_int (evs' (gsn rfl (gsn rfl gse))) ?_
            refine w_gop rfl (fun _ => ?_) (fun hh => nomatch hh)
            refine w_gt rfl rfl (fun c27 => ?_) (fun c27 => ?_)
            ·
              refine w_gop rfl (fun _ => ?_) (fun hh => nomatch hh)
              refine w_mv_bool rfl ?_
              refine w_gop rfl (fun _ => ?_) (fun hh => nomatch hh)
              refine w_mv_ptr (evs' (gsn rfl (gsn rfl (gsn rfl (gsn rfl (gsn rfl (gsn rfl f_p7))))))) ?_
              refine w_gop rfl (fun _ => ?_) (fun hh => nomatch hh)
              refine w_mv_int (evs' (gsn rfl gse)) ?_
              refine w_gop rfl (fun _ => ?_) (fun hh => nomatch hh)
              refine w_sub rfl rfl (wr64 (by omega) (by omega)) ?_
              refine w_gop rfl (fun _ => ?_) (fun hh => nomatch hh)
              refine w_mv_int (evs' (gsn rfl (gsn rfl (gsn rfl (gsn rfl gse))))) ?_
              refine w_gcall rfl (fun _ => ?_) (fun hh => nomatch hh)
              refine w_call (holds_ok _ _ _ n2 _ _ _ _ _ _ _ _ _ hb_n2 Z nf_n2_Z lt_n2 (by first | omega | simp) (by omega) (fun h10 t10 ht10 hq Sq kp10 => ?_))
              have hb_n1 := kp10.get hb_n1 lt_n1 (ni1 (by omega))
              have hb_n3 := kp10.get hb_n3 lt_n3 (ni1 (by omega))
              have U := U.keep kp10 (nF1 nf_n2_U)
              have A := A.keep kp10 (nF1 nf_n2_A)
              have lt_n1 := kp10.lt lt_n1
              have lt_n2 := kp10.lt lt_n2
              have lt_n3 := kp10.lt lt_n3
              have hr : rd ((untilF (max (max u0 u1) 0) now lea) - 1) (untilF (max (min u0 u1) 0) now lea) = ((untilF (max (max u0 u1) 0) now lea) - 1) := by unfold rd; omega
              rw [hr] at hq ht10
              have hu10 : untilF (max (max u0 u1) 0) ((untilF (max (max u0 u1) 0) now lea) - 1) lea = max ((untilF (max (max u0 u1) 0) now lea) - 1) (untilF (max (max u0 u1) 0) now lea) := untilF_up lea (by omega)
              rw [hu10] at ht10
              have hb_n2 := hq
              have Z := Sq
              obtain rfl : t10 = true := by rw [ht10]; exact decide_eq_true (by omega)
              refine w_gop rfl (fun _ => ?_) (fun hh => nomatch hh)
              refine w_not rfl ?_
              refine w_gop rfl (fun _ => ?_) (fun hh => nomatch hh)
              refine w_pick rfl (fun _ => ?_) (fun hh => nomatch hh)
              refine w_mv_bool rfl ?_
              refine w_pick rfl (fun hh => nomatch hh) (fun _ => ?_)
              refine w_mv_bool rfl ?_
              refine w_mv_bool rfl ?_
              refine w_gop rfl (fun _ => ?_) (fun hh => nomatch hh)
              refine w_mv_ptr (evs' (gsn rfl (gsn rfl (gsn rfl (gsn rfl (gsn rfl (gsn rfl f_p7))))))) ?_
              refine w_gop rfl (fun _ => ?_) (fun hh => nomatch hh)
              refine w_mv_int (evs' (gsn rfl gse)) ?_
              refine w_gop rfl (fun _ => ?_) (fun hh => nomatch hh)
              refine w_mv_int (evs' (gsn rfl (gsn rfl (gsn rfl (gsn rfl gse))))) ?_
              refine w_gcall rfl (fun _ => ?_) (fun hh => nomatch hh)
              refine w_call (holds_ok _ _ _ n2 _ _ _ _ _ _ _ _ _ hb_n2 Z nf_n2_Z lt_n2 (by first | omega | simp) (by omega) (fun h11 t11 ht11 hq Sq kp11 => ?_))
              have hb_n1 := kp11.get hb_n1 lt_n1 (ni1 (by omega))
              have hb_n3 := kp11.get hb_n3 lt_n3 (ni1 (by omega))
              have U := U.keep kp11 (nF1 nf_n2_U)
              have A := A.keep kp11 (nF1 nf_n2_A)
              have lt_n1 := kp11.lt lt_n1
              have lt_n2 := kp11.lt lt_n2
              have lt_n3 := kp11.lt lt_n3
              have hr : rd (untilF (max (max u0 u1) 0) now lea) ((untilF (max (max u0 u1) 0) now lea) - 1) = (untilF (max (max u0 u1) 0) now lea) := by unfold rd; omega
              rw [hr] at hq ht11
              have hu11 : untilF (max (max u0 u1) 0) (untilF (max (max u0 u1) 0) now lea) lea = max (untilF (max (max u0 u1) 0) now lea) (untilF (max (max u0 u1) 0) now lea) := untilF_up lea (by omega)
              rw [hu11] at ht11
              have hb_n2 := hq
              have Z := Sq
              obtain rfl : t11 = false := by rw [ht11]; exact decide_eq_false (by omega)
              refine w_pick rfl (fun hh => nomatch hh) (fun _ => ?_)
              refine w_mv_bool rfl ?_
              refine w_kp ?_
              refine w_nil ?_
              refine w_cond (evs' gse) (fun hh => nomatch hh) (fun _ => ?_)
              refine w_skip ?_
              refine w_seq ?_
              refine w_reg ?_
              refine w_mv_ptr (evs' (gsn rfl (gsn rfl (gsn rfl (gsn rfl (gsn rfl (gsn rfl (gsn rfl f_p7)))))))) ?_
              refine w_call (drop_ok _ _ _ n2 _ _ _ _ _ hb_n2 lt_n2 U.flat Z.flat (fun h12 hq kp12 => ?_))
              have hb_n1 := kp12.get hb_n1 lt_n1 (ni1 (by omega))
              have hb_n3 := kp12.get hb_n3 lt_n3 (ni1 (by omega))
              have U := U.keep kp12 (nF1 nf_n2_U)
              have Z := Z.keep kp12 (nF1 nf_n2_Z)
              have A := A.keep kp12 (nF1 nf_n2_A)
              have lt_n1 := kp12.lt lt_n1
              have lt_n2 := kp12.lt lt_n2
              have lt_n3 := kp12.lt lt_n3
              have hb_n2 := hq
              have E1 := Sl.nilsl 1 h12
              have E2 : Sl 2 h12 .nilsl [] (([] : List (Int × Int)).map le) := Sl.nilsl 2 h12
              have nf_n1_E1 : n1 ∉ ([] : List P) := ni0
              have nf_n1_E2 : n1 ∉ ([] : List P) := ni0
              have nf_n2_E1 : n2 ∉ ([] : List P) := ni0
              have nf_n2_E2 : n2 ∉ ([] : List P) := ni0
              have nf_n3_E1 : n3 ∉ ([] : List P) := ni0
              have nf_n3_E2 : n3 ∉ ([] : List P) := ni0
              have dj_E1_E2 : ∀ x ∈ ([] : List P), x ∉ ([] : List P) := nF0
              have dj_E2_E1 : ∀ x ∈ ([] : List P), x ∉ ([] : List P) := nF0
              refine w_nil ?_
              refine w_seq ?_
              refine w_reg ?_
              refine w_mv_ptr (evs' (gsn rfl (gsn rfl (gsn rfl (gsn rfl (gsn rfl (gsn rfl (gsn rfl f_p7)))))))) ?_
              refine w_call (holds_ok _ _ _ n2 _ _ _ _ _ _ _ _ _ hb_n2 E2 nf_n2_E2 lt_n2 (by first | omega | simp) (by omega) (fun h13 t13 ht13 hq Sq kp13 => ?_))
              have hb_n1 := kp13.get hb_n1 lt_n1 (ni1 (by omega))
              have hb_n3 := kp13.get hb_n3 lt_n3 (ni1 (by omega))
              have E1 := E1.keep kp13 (nF1 nf_n2_E1)
              have lt_n1 := kp13.lt lt_n1
              have lt_n2 := kp13.lt lt_n2
              have lt_n3 := kp13.lt lt_n3
              have hr : rd 0 (untilF (max (max u0 u1) 0) now lea) = (untilF (max (max u0 u1) 0) now lea) := by unfold rd; omega
              rw [hr] at hq ht13
              have hb_n2 := hq
              have E2 := Sq
              obtain rfl : t13 = false := by rw [ht13]; exact decide_eq_false (by simp [untilF])
              refine w_not rfl ?_
              refine w_mv_bool rfl ?_
              refine w_gop rfl (fun _ => ?_) (fun hh => nomatch hh)
              refine w_mv_ptr (evs' (gsn rfl (gsn rfl (gsn rfl (gsn rfl (gsn rfl (gsn rfl (gsn rfl f_p7)))))))) ?_
              refine w_gop rfl (fun _ => ?_) (fun hh => nomatch hh)
              refine w_ldn (evs' (gsn rfl (gsn rfl (gsn rfl (gsn rfl (gsn rfl (gsn rfl (gsn rfl f_p9)))))))) hb_n3 rfl ?_
              refine w_gcall rfl (fun _ => ?_) (fun hh => nomatch hh)
              refine w_call (take_unknown _ _ _ n2 _ _ _ _ _ _ _ _ _ _ _ hb_n2 E1 nf_n2_E1 lt_n2 (by first | omega | simp) (by omega) (fun e he => nomatch he) (fun h14 hq Sq kp14 => ?_))
              have hb_n1 := kp14.get hb_n1 lt_n1 (ni1 (by omega))
              have hb_n3 := kp14.get hb_n3 lt_n3 (ni1 (by omega))
              have E2 := E2.keep kp14 (nF1 nf_n2_E2)
              have lt_n1 := kp14.lt lt_n1
              have lt_n2 := kp14.lt lt_n2
              have lt_n3 := kp14.lt lt_n3
              have hb_n2 := hq
              have E1 := Sq
              have hr : rd 0 (untilF (max (max u0 u1) 0) now lea) = (untilF (max (max u0 u1) 0) now lea) := by unfold rd; omega
              rw [hr] at hb_n2
              refine w_gop rfl (fun _ => ?_) (fun hh => nomatch hh)
              refine w_not rfl ?_
              refine w_pick rfl (fun _ => ?_) (fun hh => nomatch hh)
              refine w_mv_bool rfl ?_
              refine w_mv_bool rfl ?_
              refine w_gop rfl (fun _ => ?_) (fun hh => nomatch hh)
              refine w_mv_ptr (evs' (gsn rfl (gsn rfl (gsn rfl (gsn rfl (gsn rfl (gsn rfl (gsn rfl f_p7)))))))) ?_
              refine w_gcall rfl (fun _ => ?_) (fun hh => nomatch hh)
              refine w_call (until_ok _ _ _ n2 _ _ _ _ _ _ _ _ _ hb_n2 E2 nf_n2_E2 lt_n2 (by simp) (by omega) (fun h15 hq Sq kp15 => ?_))
              have hb_n1 := kp15.get hb_n1 lt_n1 (ni1 (by omega))
              have hb_n3 := kp15.get hb_n3 lt_n3 (ni1 (by omega))
              have E1 := E1.keep kp15 (nF1 nf_n2_E1)
              have lt_n1 := kp15.lt lt_n1
              have lt_n2 := kp15.lt lt_n2
              have lt_n3 := kp15.lt lt_n3
              have hr : rd 0 (untilF (max (max u0 u1) 0) now lea) = (untilF (max (max u0 u1) 0) now lea) := by unfold rd; omega
              rw [hr] at hq ⊢
              have hu9 : untilF (max 1073741824 0) (untilF (max (max u0 u1) 0) now lea) [] = (untilF (max (max u0 u1) 0) now lea) := rfl
              rw [hu9]
              have hb_n2 := hq
              have E2 := Sq
              refine w_gop rfl (fun _ => ?_) (fun hh => nomatch hh)
              refine w_mv_int (evs' (gsn rfl (gsn rfl gse))) ?_
              refine w_gop rfl (fun _ => ?_) (fun hh => nomatch hh)
              refine w_ieq rfl rfl (fun c28 => ?_) (fun c28 => absurd rfl c28)
              refine w_pick rfl (fun _ => ?_) (fun hh => nomatch hh)
              refine w_mv_bool rfl ?_
              refine w_mv_bool rfl ?_
              refine w_kp ?_
              refine w_nil ?_
              refine w_ret ?_
              refine ens_ret1 gse ?_
              exact rfl
            ·
              refine w_gop rfl (fun _ => ?_) (fun hh => nomatch hh)
              refine w_mv_bool rfl ?_
              refine w_gop rfl (fun hh => nomatch hh) (fun _ => ?_)
              refine w_gop rfl (fun hh => nomatch hh) (fun _ => ?_)
              refine w_gop rfl (fun hh => nomatch hh) (fun _ => ?_)
              refine w_gop rfl (fun hh => nomatch hh) (fun _ => ?_)
              refine w_gcall rfl (fun hh => nomatch hh) (fun _ => ?_)
              refine w_gop rfl (fun hh => nomatch hh) (fun _ => ?_)
              refine w_gop rfl (fun _ => ?_) (fun hh => nomatch hh)
              refine w_pick rfl (fun hh => nomatch hh) (fun _ => ?_)
              refine w_mv_bool rfl ?_
              refine w_pick rfl (fun hh => nomatch hh) (fun _ => ?_)
              refine w_mv_bool rfl ?_
              refine w_mv_bool rfl ?_
              refine w_gop rfl (fun _ => ?_) (fun hh => nomatch hh)
              refine w_mv_ptr (evs' (gsn rfl (gsn rfl (gsn rfl (gsn rfl (gsn rfl (gsn rfl f_p7))))))) ?_
              refine w_gop rfl (fun _ => ?_) (fun hh => nomatch hh)
              refine w_mv_int (evs' (gsn rfl gse)) ?_
              refine w_gop rfl (fun _ => ?_) (fun hh => nomatch hh)
              refine w_mv_int (evs' (gsn rfl (gsn rfl (gsn rfl (gsn rfl gse))))) ?_
              refine w_gcall rfl (fun _ => ?_) (fun hh => nomatch hh)
              refine w_call (holds_ok _ _ _ n2 _ _ _ _ _ _ _ _ _ hb_n2 Z nf_n2_Z lt_n2 (by first | omega | simp) (by omega) (fun h10 t10 ht10 hq Sq kp10 => ?_))
              have hb_n1 := kp10.get hb_n1 lt_n1 (ni1 (by omega))
              have hb_n3 := kp10.get hb_n3 lt_n3 (ni1 (by omega))
              have U := U.keep kp10 (nF1 nf_n2_U)
              have A := A.keep kp10 (nF1 nf_n2_A)
              have lt_n1 := kp10.lt lt_n1
              have lt_n2 := kp10.lt lt_n2
              have lt_n3 := kp10.lt lt_n3
              have hr : rd (untilF (max (max u0 u1) 0) now lea) (untilF (max (min u0 u1) 0) now lea) = (untilF (max (max u0 u1) 0) now lea) := by unfold rd; omega
              rw [hr] at hq ht10
              have hu10 : untilF (max (max u0 u1) 0) (untilF (max (max u0 u1) 0) now lea) lea = max (untilF (max (max u0 u1) 0) now lea) (untilF (max (max u0 u1) 0) now lea) := untilF_up lea (by omega)
              rw [hu10] at ht10
              have hb_n2 := hq
              have Z := Sq
              obtain rfl : t10 = false := by rw [ht10]; exact decide_eq_false (by omega)
              refine w_pick rfl (fun hh => nomatch hh) (fun _ => ?_)
              refine w_mv_bool rfl ?_
              refine w_kp ?_
              refine w_nil ?_
              refine w_cond (evs' gse) (fun hh => nomatch hh) (fun _ => ?_)
              refine w_skip ?_
              refine w_seq ?_
              refine w_reg ?_
              refine w_mv_ptr (evs' (gsn rfl (gsn rfl (gsn rfl (gsn rfl (gsn rfl (gsn rfl (gsn rfl f_p7)))))))) ?_
              refine w_call (drop_ok _ _ _ n2 _ _ _ _ _ hb_n2 lt_n2 U.flat Z.flat (fun h11 hq kp11 => ?_))
              have hb_n1 := kp11.get hb_n1 lt_n1 (ni1 (by omega))
              have hb_n3 := kp11.get hb_n3 lt_n3 (ni1 (by omega))
              have U := U.keep kp11 (nF1 nf_n2_U)
              have Z := Z.keep kp11 (nF1 nf_n2_Z)
              have A := A.keep kp11 (nF1 nf_n2_A)
              have lt_n1 := kp11.lt lt_n1
              have lt_n2 := kp11.lt lt_n2
              have lt_n3 := kp11.lt lt_n3
              have hb_n2 := hq
              have E1 := Sl.nilsl 1 h11
              have E2 : Sl 2 h11 .nilsl [] (([] : List (Int × Int)).map le) := Sl.nilsl 2 h11
              have nf_n1_E1 : n1 ∉ ([] : List P) := ni0
              have nf_n1_E2 : n1 ∉ ([] : List P) := ni0
              have nf_n2_E1 : n2 ∉ ([] : List P) := ni0
              have nf_n2_E2 : n2 ∉ ([] : List P) := ni0
              have nf_n3_E1 : n3 ∉ ([] : List P) := ni0
              have nf_n3_E2 : n3 ∉ ([] : List P) := ni0
              have dj_E1_E2 : ∀ x ∈ ([] : List P), x ∉ ([] : List P) := nF0
              have dj_E2_E1 : ∀ x ∈ ([] : List P), x ∉ ([] : List P) := nF0
              refine w_nil ?_
              refine w_seq ?_
              refine w_reg ?_
              refine w_mv_ptr (evs' (gsn rfl (gsn rfl (gsn rfl (gsn rfl (gsn rfl (gsn rfl (gsn rfl f_p7)))))))) ?_
              refine w_call (holds_ok _ _ _ n2 _ _ _ _ _ _ _ _ _ hb_n2 E2 nf_n2_E2 lt_n2 (by first | omega | simp) (by omega) (fun h12 t12 ht12 hq Sq kp12 => ?_))
              have hb_n1 := kp12.get hb_n1 lt_n1 (ni1 (by omega))
              have hb_n3 := kp12.get hb_n3 lt_n3 (ni1 (by omega))
              have E1 := E1.keep kp12 (nF1 nf_n2_E1)
              have lt_n1 := kp12.lt lt_n1
              have lt_n2 := kp12.lt lt_n2
              have lt_n3 := kp12.lt lt_n3
              have hr : rd 0 (untilF (max (max u0 u1) 0) now lea) = (untilF (max (max u0 u1) 0) now lea) := by unfold rd; omega
              rw [hr] at hq ht12
              have hb_n2 := hq
              have E2 := Sq
              obtain rfl : t12 = false := by rw [ht12]; exact decide_eq_false (by simp [untilF])
              refine w_not rfl ?_
              refine w_mv_bool rfl ?_
              refine w_gop rfl (fun _ => ?_) (fun hh => nomatch hh)
              refine w_mv_ptr (evs' (gsn rfl (gsn rfl (gsn rfl (gsn rfl (gsn rfl (gsn rfl (gsn rfl f_p7)))))))) ?_
              refine w_gop rfl (fun _ => ?_) (fun hh => nomatch hh)
              refine w_ldn (evs' (gsn rfl (gsn rfl (gsn rfl (gsn rfl (gsn rfl (gsn rfl (gsn rfl f_p9)))))))) hb_n3 rfl ?_
              refine w_gcall rfl (fun _ => ?_) (fun hh => nomatch hh)
              refine w_call (take_unknown _ _ _ n2 _ _ _ _ _ _ _ _ _ _ _ hb_n2 E1 nf_n2_E1 lt_n2 (by first | omega | simp) (by omega) (fun e he => nomatch he) (fun h13 hq Sq kp13 => ?_))
              have hb_n1 := kp13.get hb_n1 lt_n1 (ni1 (by omega))
              have hb_n3 := kp13.get hb_n3 lt_n3 (ni1 (by omega))
              have E2 := E2.keep kp13 (nF1 nf_n2_E2)
              have lt_n1 := kp13.lt lt_n1
              have lt_n2 := kp13.lt lt_n2
              have lt_n3 := kp13.lt lt_n3
              have hb_n2 := hq
              have E1 := Sq
              have hr : rd 0 (untilF (max (max u0 u1) 0) now lea) = (untilF (max (max u0 u1) 0) now lea) := by unfold rd; omega
              rw [hr] at hb_n2
              refine w_gop rfl (fun _ => ?_) (fun hh => nomatch hh)
              refine w_not rfl ?_
              refine w_pick rfl (fun _ => ?_) (fun hh => nomatch hh)
              refine w_mv_bool rfl ?_
              refine w_mv_bool rfl ?_
              refine w_gop rfl (fun _ => ?_) (fun hh => nomatch hh)
              refine w_mv_ptr (evs' (gsn rfl (gsn rfl (gsn rfl (gsn rfl (gsn rfl (gsn rfl (gsn rfl f_p7)))))))) ?_
              refine w_gcall rfl (fun _ => ?_) (fun hh => nomatch hh)
              refine w_call (until_ok _ _ _ n2 _ _ _ _ _ _ _ _ _ hb_n2 E2 nf_n2_E2 lt_n2 (by simp) (by omega) (fun h14 hq Sq kp14 => ?_))
              have hb_n1 := kp14.get hb_n1 lt_n1 (ni1 (by omega))
              have hb_n3 := kp14.get hb_n3 lt_n3 (ni1 (by omega))
              have E1 := E1.keep kp14 (nF1 nf_n2_E1)
              have lt_n1 := kp14.lt lt_n1
              have lt_n2 := kp14.lt lt_n2
              have lt_n3 := kp14.lt lt_n3
              have hr : rd 0 (untilF (max (max u0 u1) 0) now lea) = (untilF (max (max u0 u1) 0) now lea) := by unfold rd; omega
              rw [hr] at hq ⊢
              have hu9 : untilF (max 1073741824 0) (untilF (max (max u0 u1) 0) now lea) [] = (untilF (max (max u0 u1) 0) now lea) := rfl
              rw [hu9]
              have hb_n2 := hq
              have E2 := Sq
              refine w_gop rfl (fun _ => ?_) (fun hh => nomatch hh)
              refine w_mv_int (evs' (gsn rfl (gsn rfl gse))) ?_
              refine w_gop rfl (fun _ => ?_) (fun hh => nomatch hh)
              refine w_ieq rfl rfl (fun c29 => ?_) (fun c29 => absurd rfl c29)
              refine w_pick rfl (fun _ => ?_) (fun hh => nomatch hh)
              refine w_mv_bool rfl ?_
              refine w_mv_bool rfl ?_
              refine w_kp ?_
              refine w_nil ?_
              refine w_ret ?_
              refine ens_ret1 gse ?_
              exact rfl
          ·
            refine w_mv_bool rfl ?_
            refine w_gop rfl (fun hh => nomatch hh) (fun _ => ?_)
            refine w_gop rfl (fun hh => nomatch hh) (fun _ => ?_)
            refine w_gop rfl (fun hh => nomatch hh) (fun _ => ?_)
            refine w_gop rfl (fun hh => nomatch hh) (fun _ => ?_)
            refine w_gcall rfl (fun hh => nomatch hh) (fun _ => ?_)
            refine w_gop rfl (fun hh => nomatch hh) (fun _ => ?_)
            refine w_pick rfl (fun hh => nomatch hh) (fun _ => ?_)
            refine w_mv_bool rfl ?_
            refine w_mv_bool rfl ?_
            refine w_gop rfl (fun _ => ?_) (fun hh => nomatch hh)
            refine w_mv_ptr (evs' (gsn rfl (gsn rfl (gsn rfl (gsn rfl (gsn rfl (gsn rfl f_p7))))))) ?_
            refine w_gop rfl (fun _ => ?_) (fun hh => nomatch hh)
            refine w_mv_int (evs' (gsn rfl (gsn rfl gse))) ?_
            refine w_gop rfl (fun _ => ?_) (fun hh => nomatch hh)
            refine w_mv_int (evs' (gsn rfl (gsn rfl (gsn rfl gse)))) ?_
            refine w_gcall rfl (fun _ => ?_) (fun hh => nomatch hh)
            refine w_call (holds_ok _ _ _ n2 _ _ _ _ _ _ _ _ _ hb_n2 Z nf_n2_Z lt_n2 (by first | omega | simp) (by omega) (fun h8 t8 ht8 hq Sq kp8 => ?_))
            have hb_n1 := kp8.get hb_n1 lt_n1 (ni1 (by omega))
            have hb_n3 := kp8.get hb_n3 lt_n3 (ni1 (by omega))
            have U := U.keep kp8 (nF1 nf_n2_U)
            have A := A.keep kp8 (nF1 nf_n2_A)
            have lt_n1 := kp8.lt lt_n1
            have lt_n2 := kp8.lt lt_n2
            have lt_n3 := kp8.lt lt_n3
            have hr : rd (untilF (max (min u0 u1) 0) now lea) now = (untilF (max (min u0 u1) 0) now lea) := by unfold rd; omega
            rw [hr] at hq ht8
            have hu8 : untilF (max (min u0 u1) 0) (untilF (max (min u0 u1) 0) now lea) lea = max (untilF (max (min u0 u1) 0) now lea) (untilF (max (min u0 u1) 0) now lea) := untilF_up lea (by omega)
            rw [hu8] at ht8
            have hb_n2 := hq
            have Z := Sq
            obtain rfl : t8 = false := by rw [ht8]; exact decide_eq_false (by omega)
            refine w_pick rfl (fun hh => nomatch hh) (fun _ => ?_)
            refine w_mv_bool rfl ?_
            refine w_mv_bool rfl ?_
            refine w_gop rfl (fun _ => ?_) (fun hh => nomatch hh)
            refine w_mv_int (evs' (gsn rfl gse)) ?_
            refine w_gop rfl (fun _ => ?_) (fun hh => nomatch hh)
            refine w_mv_int (evs' (gsn rfl (gsn rfl gse))) ?_
            refine w_gop rfl (fun _ => ?_) (fun hh => nomatch hh)
            refine w_gt rfl rfl (fun c30 => ?_) (fun c30 => ?_)
            ·
              refine w_gop rfl (fun _ => ?_) (fun hh => nomatch hh)
              refine w_mv_bool rfl ?_
              refine w_gop rfl (fun _ => ?_) (fun hh => nomatch hh)
              refine w_mv_ptr (evs' (gsn rfl (gsn rfl (gsn rfl (gsn rfl (gsn rfl (gsn rfl f_p7))))))) ?_
              refine w_gop rfl (fun _ => ?_) (fun hh => nomatch hh)
              refine w_mv_int (evs' (gsn rfl gse)) ?_
              refine w_gop rfl (fun _ => ?_) (fun hh => nomatch hh)
              refine w_sub rfl rfl (wr64 (by omega) (by omega)) ?_
              refine w_gop rfl (fun _ => ?_) (fun hh => nomatch hh)
              refine w_mv_int (evs' (gsn rfl (gsn rfl (gsn rfl (gsn rfl gse))))) ?_
              refine w_gcall rfl (fun _ => ?_) (fun hh => nomatch hh)
              refine w_call (holds_ok _ _ _ n2 _ _ _ _ _ _ _ _ _ hb_n2 Z nf_n2_Z lt_n2 (by first | omega | simp) (by omega) (fun h9 t9 ht9 hq Sq kp9 => ?_))
              have hb_n1 := kp9.get hb_n1 lt_n1 (ni1 (by omega))
              have hb_n3 := kp9.get hb_n3 lt_n3 (ni1 (by omega))
              have U := U.keep kp9 (nF1 nf_n2_U)
              have A := A.keep kp9 (nF1 nf_n2_A)
              have lt_n1 := kp9.lt lt_n1
              have lt_n2 := kp9.lt lt_n2
              have lt_n3 := kp9.lt lt_n3
              have hr : rd ((untilF (max (max u0 u1) 0) now lea) - 1) (untilF (max (min u0 u1) 0) now lea) = ((untilF (max (max u0 u1) 0) now lea) - 1) := by unfold rd; omega
              rw [hr] at hq ht9
              have hu9 : untilF (max (max u0 u1) 0) ((untilF (max (max u0 u1) 0) now lea) - 1) lea = max ((untilF (max (max u0 u1) 0) now lea) - 1) (untilF (max (max u0 u1) 0) now lea) := untilF_up lea (by omega)
              rw [hu9] at ht9
              have hb_n2 := hq
              have Z := Sq
              obtain rfl : t9 = true := by rw [ht9]; exact decide_eq_true (by omega)
              refine w_gop rfl (fun _ => ?_) (fun hh => nomatch hh)
              refine w_not rfl ?_
              refine w_gop rfl (fun _ => ?_) (fun hh => nomatch hh)
              refine w_pick rfl (fun _ => ?_) (fun hh => nomatch hh)
              refine w_mv_bool rfl ?_
              refine w_pick rfl (fun hh => nomatch hh) (fun _ => ?_)
              refine w_mv_bool rfl ?_
              refine w_mv_bool rfl ?_
              refine w_gop rfl (fun _ => ?_) (fun hh => nomatch hh)
              refine w_mv_ptr (evs' (gsn rfl (gsn rfl (gsn rfl (gsn rfl (gsn rfl (gsn rfl f_p7))))))) ?_
              refine w_gop rfl (fun _ => ?_) (fun hh => nomatch hh)
              refine w_mv_int (evs' (gsn rfl gse)) ?_
              refine w_gop rfl (fun _ => ?_) (fun hh => nomatch hh)
              refine w_mv_int (evs' (gsn rfl (gsn rfl (gsn rfl (gsn rfl gse))))) ?_
              refine w_gcall rfl (fun _ => ?_) (fun hh => nomatch hh)
              refine w_call (holds_ok _ _ _ n2 _ _ _ _ _ _ _ _ _ hb_n2 Z nf_n2_Z lt_n2 (by first | omega | simp) (by omega) (fun h10 t10 ht10 hq Sq kp10 => ?_))
              have hb_n1 := kp10.get hb_n1 lt_n1 (ni1 (by omega))
              have hb_n3 := kp10.get hb_n3 lt_n3 (ni1 (by omega))
              have U := U.keep kp10 (nF1 nf_n2_U)
              have A := A.keep kp10 (nF1 nf_n2_A)
              have lt_n1 := kp10.lt lt_n1
              have lt_n2 := kp10.lt lt_n2
              have lt_n3 := kp10.lt lt_n3
              have hr : rd (untilF (max (max u0 u1) 0) now lea) ((untilF (max (max u0 u1) 0) now lea) - 1) = (untilF (max (max u0 u1) 0) now lea) := by unfold rd; omega
              rw [hr] at hq ht10
              have hu10 : untilF (max (max u0 u1) 0) (untilF (max (max u0 u1) 0) now lea) lea = max (untilF (max (max u0 u1) 0) now lea) (untilF (max (max u0 u1) 0) now lea) := untilF_up lea (by omega)
              rw [hu10] at ht10
              have hb_n2 := hq
              have Z := Sq
              obtain rfl : t10 = false := by rw [ht10]; exact decide_eq_false (by omega)
              refine w_pick rfl (fun hh => nomatch hh) (fun _ => ?_)
              refine w_mv_bool rfl ?_
              refine w_kp ?_
              refine w_nil ?_
              refine w_cond (evs' gse) (fun hh => nomatch hh) (fun _ => ?_)
              refine w_skip ?_
              refine w_seq ?_
              refine w_reg ?_
              refine w_mv_ptr (evs' (gsn rfl (gsn rfl (gsn rfl (gsn rfl (gsn rfl (gsn rfl (gsn rfl f_p7)))))))) ?_
              refine w_call (drop_ok _ _ _ n2 _ _ _ _ _ hb_n2 lt_n2 U.flat Z.flat (fun h11 hq kp11 => ?_))
              have hb_n1 := kp11.get hb_n1 lt_n1 (ni1 (by omega))
              have hb_n3 := kp11.get hb_n3 lt_n3 (ni1 (by omega))
              have U := U.keep kp11 (nF1 nf_n2_U)
              have Z := Z.keep kp11 (nF1 nf_n2_Z)
              have A := A.keep kp11 (nF1 nf_n2_A)
              have lt_n1 := kp11.lt lt_n1
              have lt_n2 := kp11.lt lt_n2
              have lt_n3 := kp11.lt lt_n3
              have hb_n2 := hq
              have E1 := Sl.nilsl 1 h11
              have E2 : Sl 2 h11 .nilsl [] (([] : List (Int × Int)).map le) := Sl.nilsl 2 h11
              have nf_n1_E1 : n1 ∉ ([] : List P) := ni0
              have nf_n1_E2 : n1 ∉ ([] : List P) := ni0
              have nf_n2_E1 : n2 ∉ ([] : List P) := ni0
              have nf_n2_E2 : n2 ∉ ([] : List P) := ni0
              have nf_n3_E1 : n3 ∉ ([] : List P) := ni0
              have nf_n3_E2 : n3 ∉ ([] : List P) := ni0
              have dj_E1_E2 : ∀ x ∈ ([] : List P), x ∉ ([] : List P) := nF0
              have dj_E2_E1 : ∀ x ∈ ([] : List P), x ∉ ([] : List P) := nF0
              refine w_nil ?_
              refine w_seq ?_
              refine w_reg ?_
              refine w_mv_ptr (evs' (gsn rfl (gsn rfl (gsn rfl (gsn rfl (gsn rfl (gsn rfl (gsn rfl f_p7)))))))) ?_
              refine w_call (holds_ok _ _ _ n2 _ _ _ _ _ _ _ _ _ hb_n2 E2 nf_n2_E2 lt_n2 (by first | omega | simp) (by omega) (fun h12 t12 ht12 hq Sq kp12 => ?_))
              have hb_n1 := kp12.get hb_n1 lt_n1 (ni1 (by omega))
              have hb_n3 := kp12.get hb_n3 lt_n3 (ni1 (by omega))
              have E1 := E1.keep kp12 (nF1 nf_n2_E1)
              have lt_n1 := kp12.lt lt_n1
              have lt_n2 := kp12.lt lt_n2
              have lt_n3 := kp12.lt lt_n3
              have hr : rd 0 (untilF (max (max u0 u1) 0) now lea) = (untilF (max (max u0 u1) 0) now lea) := by unfold rd; omega
              rw [hr] at hq ht12
              have hb_n2 := hq
              have E2 := Sq
              obtain rfl : t12 = false := by rw [ht12]; exact decide_eq_false (by simp [untilF])
              refine w_not rfl ?_
              refine w_mv_bool rfl ?_
              refine w_gop rfl (fun _ => ?_) (fun hh => nomatch hh)
              refine w_mv_ptr (evs' (gsn rfl (gsn rfl (gsn rfl (gsn rfl (gsn rfl (gsn rfl (gsn rfl f_p7)))))))) ?_
              refine w_gop rfl (fun _ => ?_) (fun hh => nomatch hh)
              refine w_ldn (evs' (gsn rfl (gsn rfl (gsn rfl (gsn rfl (gsn rfl (gsn rfl (gsn rfl f_p9)))))))) hb_n3 rfl ?_
              refine w_gcall rfl (fun _ => ?_) (fun hh => nomatch hh)
              refine w_call (take_unknown _ _ _ n2 _ _ _ _ _ _ _ _ _ _ _ hb_n2 E1 nf_n2_E1 lt_n2 (by first | omega | simp) (by omega) (fun e he => nomatch he) (fun h13 hq Sq kp13 => ?_))
              have hb_n1 := kp13.get hb_n1 lt_n1 (ni1 (by omega))
              have hb_n3 := kp13.get hb_n3 lt_n3 (ni1 (by omega))
              have E2 := E2.keep kp13 (nF1 nf_n2_E2)
              have lt_n1 := kp13.lt lt_n1
              have lt_n2 := kp13.lt lt_n2
              have lt_n3 := kp13.lt lt_n3
              have hb_n2 := hq
              have E1 := Sq
              have hr : rd 0 (untilF (max (max u0 u1) 0) now lea) = (untilF (max (max u0 u1) 0) now lea) := by unfold rd; omega
              rw [hr] at hb_n2
              refine w_gop rfl (fun _ => ?_) (fun hh => nomatch hh)
              refine w_not rfl ?_
              refine w_pick rfl (fun _ => ?_) (fun hh => nomatch hh)
              refine w_mv_bool rfl ?_
              refine w_mv_bool rfl ?_
              refine w_gop rfl (fun _ => ?_) (fun hh => nomatch hh)
              refine w_mv_ptr (evs' (gsn rfl (gsn rfl (gsn rfl (gsn rfl (gsn rfl (gsn rfl (gsn rfl f_p7)))))))) ?_
              refine w_gcall rfl (fun _ => ?_) (fun hh => nomatch hh)
              refine w_call (until_ok _ _ _ n2 _ _ _ _ _ _ _ _ _ hb_n2 E2 nf_n2_E2 lt_n2 (by simp) (by omega) (fun h14 hq Sq kp14 => ?_))
              have hb_n1 := kp14.get hb_n1 lt_n1 (ni1 (by omega))
              have hb_n3 := kp14.get hb_n3 lt_n3 (ni1 (by omega))
              have E1 := E1.keep kp14 (nF1 nf_n2_E1)
              have lt_n1 := kp14.lt lt_n1
              have lt_n2 := kp14.lt lt_n2
              have lt_n3 := kp14.lt lt_n3
              have hr : rd 0 (untilF (max (max u0 u1) 0) now lea) = (untilF (max (max u0 u1) 0) now lea) := by unfold rd; omega
              rw [hr] at hq ⊢
              have hu9 : untilF (max 1073741824 0) (untilF (max (max u0 u1) 0) now lea) [] = (untilF (max (max u0 u1) 0) now lea) := rfl
              rw [hu9]
              have hb_n2 := hq
              have E2 := Sq
              refine w_gop rfl (fun _ => ?_) (fun hh => nomatch hh)
              refine w_mv_int (evs' (gsn rfl (gsn rfl gse))) ?_
              refine w_gop rfl (fun _ => ?_) (fun hh => nomatch hh)
              refine w_ieq rfl rfl (fun c31 => ?_) (fun c31 => absurd rfl c31)
              refine w_pick rfl (fun _ => ?_) (fun hh => nomatch hh)
              refine w_mv_bool rfl ?_
              refine w_mv_bool rfl ?_
              refine w_kp ?_
              refine w_nil ?_
              refine w_ret ?_
              refine ens_ret1 gse ?_
              exact rfl
            ·
              refine w_gop rfl (fun _ => ?_) (fun hh => nomatch hh)
              refine w_mv_bool rfl ?_
              refine w_gop rfl (fun hh => nomatch hh) (fun _ => ?_)
              refine w_gop rfl (fun hh => nomatch hh) (fun _ => ?_)
              refine w_gop rfl (fun hh => nomatch hh) (fun _ => ?_)
              refine w_gop rfl (fun hh => nomatch hh) (fun _ => ?_)
              refine w_gcall rfl (fun hh => nomatch hh) (fun _ => ?_)
              refine w_gop rfl (fun hh => nomatch hh) (fun _ => ?_)
              refine w_gop rfl (fun _ => ?_) (fun hh => nomatch hh)
              refine w_pick rfl (fun hh => nomatch hh) (fun _ => ?_)
              refine w_mv_bool rfl ?_
              refine w_pick rfl (fun hh => nomatch hh) (fun _ => ?_)
              refine w_mv_bool rfl ?_
              refine w_mv_bool rfl ?_
              refine w_gop rfl (fun _ => ?_) (fun hh => nomatch hh)
              refine w_mv_ptr (evs' (gsn rfl (gsn rfl (gsn rfl (gsn rfl (gsn rfl (gsn rfl f_p7))))))) ?_
              refine w_gop rfl (fun _ => ?_) (fun hh => nomatch hh)
              refine w_mv_int (evs' (gsn rfl gse)) ?_
              refine w_gop rfl (fun _ => ?_) (fun hh => nomatch hh)
              refine w_mv_int (evs' (gsn rfl (gsn rfl (gsn rfl (gsn rfl gse))))) ?_
              refine w_gcall rfl (fun _ => ?_) (fun hh => nomatch hh)
              refine w_call (holds_ok _ _ _ n2 _ _ _ _ _ _ _ _ _ hb_n2 Z nf_n2_Z lt_n2 (by first | omega | simp) (by omega) (fun h9 t9 ht9 hq Sq kp9 => ?_))
              have hb_n1 := kp9.get hb_n1 lt_n1 (ni1 (by omega))
              have hb_n3 := kp9.get hb_n3 lt_n3 (ni1 (by omega))
              have U := U.keep kp9 (nF1 nf_n2_U)
              have A := A.keep kp9 (nF1 nf_n2_A)
              have lt_n1 := kp9.lt lt_n1
              have lt_n2 := kp9.lt lt_n2
              have lt_n3 := kp9.lt lt_n3
              have hr : rd (untilF (max (max u0 u1) 0) now lea) (untilF (max (min u0 u1) 0) now lea) = (untilF (max (max u0 u1) 0) now lea) := by unfold rd; omega
              rw [hr] at hq ht9
              have hu9 : untilF (max (max u0 u1) 0) (untilF (max (max u0 u1) 0) now lea) lea = max (untilF (max (max u0 u1) 0) now lea) (untilF (max (max u0 u1) 0) now lea) := untilF_up lea (by omega)
              rw [hu9] at ht9
              have hb_n2 := hq
              have Z := Sq
              obtain rfl : t9 = false := by rw [ht9]; exact decide_eq_false (by omega)
              refine w_pick rfl (fun hh => nomatch hh) (fun _ => ?_)
              refine w_mv_bool rfl ?_
              refine w_kp ?_
              refine w_nil ?_
              refine w_cond (evs' gse) (fun hh => nomatch hh) (fun _ => ?_)
              refine w_skip ?_
              refine w_seq ?_
              refine w_reg ?_
              refine w_mv_ptr (evs' (gsn rfl (gsn rfl (gsn rfl (gsn rfl (gsn rfl (gsn rfl (gsn rfl f_p7)))))))) ?_
              refine w_call (drop_ok _ _ _ n2 _ _ _ _ _ hb_n2 lt_n2 U.flat Z.flat (fun h10 hq kp10 => ?_))
              have hb_n1 := kp10.get hb_n1 lt_n1 (ni1 (by omega))
              have hb_n3 := kp10.get hb_n3 lt_n3 (ni1 (by omega))
              have U := U.keep kp10 (nF1 nf_n2_U)
              have Z := Z.keep kp10 (nF1 nf_n2_Z)
              have A := A.keep kp10 (nF1 nf_n2_A)
              have lt_n1 := kp10.lt lt_n1
              have lt_n2 := kp10.lt lt_n2
              have lt_n3 := kp10.lt lt_n3
              have hb_n2 := hq
              have E1 := Sl.nilsl 1 h10
              have E2 : Sl 2 h10 .nilsl [] (([] : List (Int × Int)).map le) := Sl.nilsl 2 h10
              have nf_n1_E1 : n1 ∉ ([] : List P) := ni0
              have nf_n1_E2 : n1 ∉ ([] : List P) := ni0
              have nf_n2_E1 : n2 ∉ ([] : List P) := ni0
              have nf_n2_E2 : n2 ∉ ([] : List P) := ni0
              have nf_n3_E1 : n3 ∉ ([] : List P) := ni0
              have nf_n3_E2 : n3 ∉ ([] : List P) := ni0
              have dj_E1_E2 : ∀ x ∈ ([] : List P), x ∉ ([] : List P) := nF0
              have dj_E2_E1 : ∀ x ∈ ([] : List P), x ∉ ([] : List P) := nF0
              refine w_nil ?_
              refine w_seq ?_
              refine w_reg ?_
              refine w_mv_ptr (evs' (gsn rfl (gsn rfl (gsn rfl (gsn rfl (gsn rfl (gsn rfl (gsn rfl f_p7)))))))) ?_
              refine w_call (holds_ok _ _ _ n2 _ _ _ _ _ _ _ _ _ hb_n2 E2 nf_n2_E2 lt_n2 (by first | omega | simp) (by omega) (fun h11 t11 ht11 hq Sq kp11 => ?_))
              have hb_n1 := kp11.get hb_n1 lt_n1 (ni1 (by omega))
              have hb_n3 := kp11.get hb_n3 lt_n3 (ni1 (by omega))
              have E1 := E1.keep kp11 (nF1 nf_n2_E1)
              have lt_n1 := kp11.lt lt_n1
              have lt_n2 := kp11.lt lt_n2
              have lt_n3 := kp11.lt lt_n3
              have hr : rd 0 (untilF (max (max u0 u1) 0) now lea) = (untilF (max (max u0 u1) 0) now lea) := by unfold rd; omega
              rw [hr] at hq ht11
              have hb_n2 := hq
              have E2 := Sq
              obtain rfl : t11 = false := by rw [ht11]; exact decide_eq_false (by simp [untilF])
              refine w_not rfl ?_
              refine w_mv_bool rfl ?_
              refine w_gop rfl (fun _ => ?_) (fun hh => nomatch hh)
              refine w_mv_ptr (evs' (gsn rfl (gsn rfl (gsn rfl (gsn rfl (gsn rfl (gsn rfl (gsn rfl f_p7)))))))) ?_
              refine w_gop rfl (fun _ => ?_) (fun hh => nomatch hh)
              refine w_ldn (evs' (gsn rfl (gsn rfl (gsn rfl (gsn rfl (gsn rfl (gsn rfl (gsn rfl f_p9)))))))) hb_n3 rfl ?_
              refine w_gcall rfl (fun _ => ?_) (fun hh => nomatch hh)
              refine w_call (take_unknown _ _ _ n2 _ _ _ _ _ _ _ _ _ _ _ hb_n2 E1 nf_n2_E1 lt_n2 (by first | omega | simp) (by omega) (fun e he => nomatch he) (fun h12 hq Sq kp12 => ?_))
              have hb_n1 := kp12.get hb_n1 lt_n1 (ni1 (by omega))
              have hb_n3 := kp12.get hb_n3 lt_n3 (ni1 (by omega))
              have E2 := E2.keep kp12 (nF1 nf_n2_E2)
              have lt_n1 := kp12.lt lt_n1
              have lt_n2 := kp12.lt lt_n2
              have lt_n3 := kp12.lt lt_n3
              have hb_n2 := hq
              have E1 := Sq
              have hr : rd 0 (untilF (max (max u0 u1) 0) now lea) = (untilF (max (max u0 u1) 0) now lea) := by unfold rd; omega
              rw [hr] at hb_n2
              refine w_gop rfl (fun _ => ?_) (fun hh => nomatch hh)
              refine w_not rfl ?_
              refine w_pick rfl (fun _ => ?_) (fun hh => nomatch hh)
              refine w_mv_bool rfl ?_
              refine w_mv_bool rfl ?_
              refine w_gop rfl (fun _ => ?_) (fun hh => nomatch hh)
              refine w_mv_ptr (evs' (gsn rfl (gsn rfl (gsn rfl (gsn rfl (gsn rfl (gsn rfl (gsn rfl f_p7)))))))) ?_
              refine w_gcall rfl (fun _ => ?_) (fun hh => nomatch hh)
              refine w_call (until_ok _ _ _ n2 _ _ _ _ _ _ _ _ _ hb_n2 E2 nf_n2_E2 lt_n2 (by simp) (by omega) (fun h13 hq Sq kp13 => ?_))
              have hb_n1 := kp13.get hb_n1 lt_n1 (ni1 (by omega))
              have hb_n3 := kp13.get hb_n3 lt_n3 (ni1 (by omega))
              have E1 := E1.keep kp13 (nF1 nf_n2_E1)
              have lt_n1 := kp13.lt lt_n1
              have lt_n2 := kp13.lt lt_n2
              have lt_n3 := kp13.lt lt_n3
              have hr : rd 0 (untilF (max (max u0 u1) 0) now lea) = (untilF (max (max u0 u1) 0) now lea) := by unfold rd; omega
              rw [hr] at hq ⊢
              have hu9 : untilF (max 1073741824 0) (untilF (max (max u0 u1) 0) now lea) [] = (untilF (max (max u0 u1) 0) now lea) := rfl
              rw [hu9]
              have hb_n2 := hq
              have E2 := Sq
              refine w_gop rfl (fun _ => ?_) (fun hh => nomatch hh)
              refine w_mv_int (evs' (gsn rfl (gsn rfl gse))) ?_
              refine w_gop rfl (fun _ => ?_) (fun hh => nomatch hh)
              refine w_ieq rfl rfl (fun c32 => ?_) (fun c32 => absurd rfl c32)
              refine w_pick rfl (fun _ => ?_) (fun hh => nomatch hh)
              refine w_mv_bool rfl ?_
              refine w_mv_bool rfl ?_
              refine w_kp ?_
              refine w_nil ?_
              refine w_ret ?_
              refine ens_ret1 gse ?_
              exact rfl
        ·
          have ht7 := of_decide_eq_true ht7.symm
          refine w_gop rfl (fun _ => ?_) (fun hh => nomatch hh)
          refine w_mv_int (evs' gse) ?_
          refine w_gop rfl (fun _ => ?_) (fun hh => nomatch hh)
          refine w_mv_int (evs' (gsn rfl (gsn rfl (gsn rfl (gsn rfl (gsn rfl f_p8)))))) ?_
          refine w_gop rfl (fun _ => ?_) (fun hh => nomatch hh)
          refine w_gt rfl rfl (fun c33 => ?_) (fun c33 => by omega)
          refine w_gop rfl (fun _ => ?_) (fun hh => nomatch hh)
          refine w_eqv (t' := false) rfl rfl rfl rfl ?_
          refine w_pick rfl (fun hh => nomatch hh) (fun _ => ?_)
          refine w_mv_bool rfl ?_
          refine w_kp ?_
          refine w_nil ?_
          refine w_cond (evs' gse) (fun hh => nomatch hh) (fun _ => ?_)
          refine w_skip ?_
          refine w_seq ?_
          refine w_seq ?_
          refine w_reg ?_
          refine w_mv_int (evs' (gsn rfl (gsn rfl gse))) ?_
          refine w_mv_int (evs' (gsn rfl (gsn rfl (gsn rfl (gsn rfl (gsn rfl (gsn rfl f_p8))))))) ?_
          refine w_gt rfl rfl (fun c34 => ?_) (fun c34 => ?_)
          ·
            refine w_mv_bool rfl ?_
            refine w_gop rfl (fun _ => ?_) (fun hh => nomatch hh)
            refine w_mv_ptr (evs' (gsn rfl (gsn rfl (gsn rfl (gsn rfl (gsn rfl (gsn rfl f_p7))))))) ?_
            refine w_gop rfl (fun _ => ?_) (fun hh => nomatch hh)
            refine w_mv_int (evs' (gsn rfl (gsn rfl gse))) ?_
            refine w_gop rfl (fun _ => ?_) (fun hh => nomatch hh)
            refine w_sub rfl rfl (wr64 (by omega) (by omega)) ?_
            refine w_gop rfl (fun _ => ?_) (fun hh => nomatch hh)
            refine w_mv_int (evs' (gsn rfl (gsn rfl (gsn rfl gse)))) ?_
            refine w_gcall rfl (fun _ => ?_) (fun hh => nomatch hh)
            refine w_call (holds_ok _ _ _ n2 _ _ _ _ _ _ _ _ _ hb_n2 Z nf_n2_Z lt_n2 (by first | omega | simp) (by omega) (fun h8 t8 ht8 hq Sq kp8 => ?_))
            have hb_n1 := kp8.get hb_n1 lt_n1 (ni1 (by omega))
            have hb_n3 := kp8.get hb_n3 lt_n3 (ni1 (by omega))
            have U := U.keep kp8 (nF1 nf_n2_U)
            have A := A.keep kp8 (nF1 nf_n2_A)
            have lt_n1 := kp8.lt lt_n1
            have lt_n2 := kp8.lt lt_n2
            have lt_n3 := kp8.lt lt_n3
            have hr : rd ((untilF (max (min u0 u1) 0) now lea) - 1) now = ((untilF (max (min u0 u1) 0) now lea) - 1) := by unfold rd; omega
            rw [hr] at hq ht8
            have hu8 : untilF (max (min u0 u1) 0) ((untilF (max (min u0 u1) 0) now lea) - 1) lea = max ((untilF (max (min u0 u1) 0) now lea) - 1) (untilF (max (min u0 u1) 0) now lea) := untilF_up lea (by omega)
            rw [hu8] at ht8
            have hb_n2 := hq
            have Z := Sq
            obtain rfl : t8 = true := by rw [ht8]; exact decide_eq_true (by omega)
            refine w_gop rfl (fun _ => ?_) (fun hh => nomatch hh)
            refine w_not rfl ?_
            refine w_pick rfl (fun _ => ?_) (fun hh => nomatch hh)
            refine w_mv_bool rfl ?_
            refine w_mv_bool rfl ?_
            refine w_gop rfl (fun _ => ?_) (fun hh => nomatch hh)
            refine w_mv_ptr (evs' (gsn rfl (gsn rfl (gsn rfl (gsn rfl (gsn rfl (gsn rfl f_p7))))))) ?_
            refine w_gop rfl (fun _ => ?_) (fun hh => nomatch hh)
            refine w_mv_int (evs' (gsn rfl (gsn rfl gse))) ?_
            refine w_gop rfl (fun _ => ?_) (fun hh => nomatch hh)
            refine w_mv_int (evs' (gsn rfl (gsn rfl (gsn rfl gse)))) ?_
            refine w_gcall rfl (fun _ => ?_) (fun hh => nomatch hh)
            refine w_call (holds_ok _ _ _ n2 _ _ _ _ _ _ _ _ _ hb_n2 Z nf_n2_Z lt_n2 (by first | omega | simp) (by omega) (fun h9 t9 ht9 hq Sq kp9 => ?_))
            have hb_n1 := kp9.get hb_n1 lt_n1 (ni1 (by omega))
            have hb_n3 := kp9.get hb_n3 lt_n3 (ni1 (by omega))
            have U := U.keep kp9 (nF1 nf_n2_U)
            have A := A.keep kp9 (nF1 nf_n2_A)
            have lt_n1 := kp9.lt lt_n1
            have lt_n2 := kp9.lt lt_n2
            have lt_n3 := kp9.lt lt_n3
            have hr : rd (untilF (max (min u0 u1) 0) now lea) ((untilF (max (min u0 u1) 0) now lea) - 1) = (untilF (max (min u0 u1) 0) now lea) := by unfold rd; omega
            rw [hr] at hq ht9
            have hu9 : untilF (max (min u0 u1) 0) (untilF (max (min u0 u1) 0) now lea) lea = max (untilF (max (min u0 u1) 0) now lea) (untilF (max (min u0 u1) 0) now lea) := untilF_up lea (by omega)
            rw [hu9] at ht9
            have hb_n2 := hq
            have Z := Sq
            obtain rfl : t9 = false := by rw [ht9]; exact decide_eq_false (by omega)
            refine w_pick rfl (fun hh => nomatch hh) (fun _ => ?_)
            refine w_mv_bool rfl ?_
            refine w_mv_bool rfl ?_
            refine w_gop rfl (fun _ => ?_) (fun hh => nomatch hh)
            refine w_mv_int (evs' (gsn rfl gse)) ?_
            refine w_gop rfl (fun _ => ?_) (fun hh => nomatch hh)
            refine w_mv_int (evs' (gsn rfl (gsn rfl gse))) ?_
            refine w_gop rfl (fun _ => ?_) (fun hh => nomatch hh)
            refine w_gt rfl rfl (fun c35 => ?_) (fun c35 => ?_)
            ·
              refine w_gop rfl (fun _ => ?_) (fun hh => nomatch hh)
              refine w_mv_bool rfl ?_
              refine w_gop rfl (fun _ => ?_) (fun hh => nomatch hh)
              refine w_mv_ptr (evs' (gsn rfl (gsn rfl (gsn rfl (gsn rfl (gsn rfl (gsn rfl f_p7))))))) ?_
              refine w_gop rfl (fun _ => ?_) (fun hh => nomatch hh)
              refine w_mv_int (evs' (gsn rfl gse)) ?_
              refine w_gop rfl (fun _ => ?_) (fun hh => nomatch hh)
              refine w_sub rfl rfl (wr64 (by omega) (by omega)) ?_
              refine w_gop rfl (fun _ => ?_) (fun hh => nomatch hh)
              refine w_mv_int (evs' (gsn rfl (gsn rfl (gsn rfl (gsn rfl gse))))) ?_
              refine w_gcall rfl (fun _ => ?_) (fun hh => nomatch hh)
              refine w_call (holds_ok _ _ _ n2 _ _ _ _ _ _ _ _ _ hb_n2 Z nf_n2_Z lt_n2 (by first | omega | simp) (by omega) (fun h10 t10 ht10 hq Sq kp10 => ?_))
              have hb_n1 := kp10.get hb_n1 lt_n1 (ni1 (by omega))
              have hb_n3 := kp10.get hb_n3 lt_n3 (ni1 (by omega))
              have U := U.keep kp10 (nF1 nf_n2_U)
              have A := A.keep kp10 (nF1 nf_n2_A)
              have lt_n1 := kp10.lt lt_n1
              have lt_n2 := kp10.lt lt_n2
              have lt_n3 := kp10.lt lt_n3
              have hr : rd ((untilF (max (max u0 u1) 0) now lea) - 1) (untilF (max (min u0 u1) 0) now lea) = ((untilF (max (max u0 u1) 0) now lea) - 1) := by unfold rd; omega
              rw [hr] at hq ht10
              have hu10 : untilF (max (max u0 u1) 0) ((untilF (max (max u0 u1) 0) now lea) - 1) lea = max ((untilF (max (max u0 u1) 0) now lea) - 1) (untilF (max (max u0 u1) 0) now lea) := untilF_up lea (by omega)
              rw [hu10] at ht10
              have hb_n2 := hq
              have Z := Sq
              obtain rfl : t10 = true := by rw [ht10]; exact decide_eq_true (by omega)
              refine w_gop rfl (fun _ => ?_) (fun hh => nomatch hh)
              refine w_not rfl ?_
              refine w_gop rfl (fun _ => ?_) (fun hh => nomatch hh)
              refine w_pick rfl (fun _ => ?_) (fun hh => nomatch hh)
              refine w_mv_bool rfl ?_
              refine w_pick rfl (fun hh => nomatch hh) (fun _ => ?_)
              refine w_mv_bool rfl ?_
              refine w_mv_bool rfl ?_
              refine w_gop rfl (fun _ => ?_) (fun hh => nomatch hh)
              refine w_mv_ptr (evs' (gsn rfl (gsn rfl (gsn rfl (gsn rfl (gsn rfl (gsn rfl f_p7))))))) ?_
              refine w_gop rfl (fun _ => ?_) (fun hh => nomatch hh)
              refine w_mv_int (evs' (gsn rfl gse)) ?_
              refine w_gop rfl (fun _ => ?_) (fun hh => nomatch hh)
              refine w_mv_int (evs' (gsn rfl (gsn rfl (gsn rfl (gsn rfl gse))))) ?_
              refine w_gcall rfl (fun _ => ?_) (fun hh => nomatch hh)
              refine w_call (holds_ok _ _ _ n2 _ _ _ _ _ _ _ _ _ hb_n2 Z nf_n2_Z lt_n2 (by first | omega | simp) (by omega) (fun h11 t11 ht11 hq Sq kp11 => ?_))
              have hb_n1 := kp11.get hb_n1 lt_n1 (ni1 (by omega))
              have hb_n3 := kp11.get hb_n3 lt_n3 (ni1 (by omega))
              have U := U.keep kp11 (nF1 nf_n2_U)
              have A := A.keep kp11 (nF1 nf_n2_A)
              have lt_n1 := kp11.lt lt_n1
              have lt_n2 := kp11.lt lt_n2
              have lt_n3 := kp11.lt lt_n3
              have hr : rd (untilF (max (max u0 u1) 0) now lea) ((untilF (max (max u0 u1) 0) now lea) - 1) = (untilF (max (max u0 u1) 0) now lea) := by unfold rd; omega
              rw [hr] at hq ht11
              have hu11 : untilF (max (max u0 u1) 0) (untilF (max (max u0 u1) 0) now lea) lea = max (untilF (max (max u0 u1) 0) now lea) (untilF (max (max u0 u1) 0) now lea) := untilF_up lea (by omega)
              rw [hu11] at ht11
              have hb_n2 := hq
              have Z := Sq
              obtain rfl : t11 = false := by rw [ht11]; exact decide_eq_false (by omega)
              refine w_pick rfl (fun hh => nomatch hh) (fun _ => ?_)
              refine w_mv_bool rfl ?_
              refine w_kp ?_
              refine w_nil ?_
              refine w_cond (evs' gse) (fun hh => nomatch hh) (fun _ => ?_)
              refine w_skip ?_
              refine w_seq ?_
              refine w_reg ?_
              refine w_mv_ptr (evs' (gsn rfl (gsn rfl (gsn rfl (gsn rfl (gsn rfl (gsn rfl (gsn rfl f_p7)))))))) ?_
              refine w_call (drop_ok _ _ _ n2 _ _ _ _ _ hb_n2 lt_n2 U.flat Z.flat (fun h12 hq kp12 => ?_))
              have hb_n1 := kp12.get hb_n1 lt_n1 (ni1 (by omega))
              have hb_n3 := kp12.get hb_n3 lt_n3 (ni1 (by omega))
              have U := U.keep kp12 (nF1 nf_n2_U)
              have Z := Z.keep kp12 (nF1 nf_n2_Z)
              have A := A.keep kp12 (nF1 nf_n2_A)
              have lt_n1 := kp12.lt lt_n1
              have lt_n2 := kp12.lt lt_n2
              have lt_n3 := kp12.lt lt_n3
              have hb_n2 := hq
              have E1 := Sl.nilsl 1 h12
              have E2 : Sl 2 h12 .nilsl [] (([] : List (Int × Int)).map le) := Sl.nilsl 2 h12
              have nf_n1_E1 : n1 ∉ ([] : List P) := ni0
              have nf_n1_E2 : n1 ∉ ([] : List P) := ni0
              have nf_n2_E1 : n2 ∉ ([] : List P) := ni0
              have nf_n2_E2 : n2 ∉ ([] : List P) := ni0
              have nf_n3_E1 : n3 ∉ ([] : List P) := ni0
              have nf_n3_E2 : n3 ∉ ([] : List P) := ni0
              have dj_E1_E2 : ∀ x ∈ ([] : List P), x ∉ ([] : List P) := nF0
              have dj_E2_E1 : ∀ x ∈ ([] : List P), x ∉ ([] : List P) := nF0
              refine w_nil ?_
              refine w_seq ?_
              refine w_reg ?_
              refine w_mv_ptr (evs' (gsn rfl (gsn rfl (gsn rfl (gsn rfl (gsn rfl (gsn rfl (gsn rfl f_p7)))))))) ?_
              refine w_call (holds_ok _ _ _ n2 _ _ _ _ _ _ _ _ _ hb_n2 E2 nf_n2_E2 lt_n2 (by first | omega | simp) (by omega) (fun h13 t13 ht13 hq Sq kp13 => ?_))
              have hb_n1 := kp13.get hb_n1 lt_n1 (ni1 (by omega))
              have hb_n3 := kp13.get hb_n3 lt_n3 (ni1 (by omega))
              have E1 := E1.keep kp13 (nF1 nf_n2_E1)
              have lt_n1 := kp13.lt lt_n1
              have lt_n2 := kp13.lt lt_n2
              have lt_n3 := kp13.lt lt_n3
              have hr : rd 0 (untilF (max (max u0 u1) 0) now lea) = (untilF (max (max u0 u1) 0) now lea) := by unfold rd; omega
              rw [hr] at hq ht13
              have hb_n2 := hq
              have E2 := Sq
              obtain rfl : t13 = false := by rw [ht13]; exact decide_eq_false (by simp [untilF])
              refine w_not rfl ?_
              refine w_mv_bool rfl ?_
              refine w_gop rfl (fun _ => ?_) (fun hh => nomatch hh)
              refine w_mv_ptr (evs' (gsn rfl (gsn rfl (gsn rfl (gsn rfl (gsn rfl (gsn rfl (gsn rfl f_p7)))))))) ?_
              refine w_gop rfl (fun _ => ?_) (fun hh => nomatch hh)
              refine w_ldn (evs' (gsn rfl (gsn rfl (gsn rfl (gsn rfl (gsn rfl (gsn rfl (gsn rfl f_p9)))))))) hb_n3 rfl ?_
              refine w_gcall rfl (fun _ => ?_) (fun hh => nomatch hh)
              refine w_call (take_unknown _ _ _ n2 _ _ _ _ _ _ _ _ _ _ _ hb_n2 E1 nf_n2_E1 lt_n2 (by first | omega | simp) (by omega) (fun e he => nomatch he) (fun h14 hq Sq kp14 => ?_))
              have hb_n1 := kp14.get hb_n1 lt_n1 (ni1 (by omega))
              have hb_n3 := kp14.get hb_n3 lt_n3 (ni1 (by omega))
              have E2 := E2.keep kp14 (nF1 nf_n2_E2)
              have lt_n1 := kp14.lt lt_n1
              have lt_n2 := kp14.lt lt_n2
              have lt_n3 := kp14.lt lt_n3
              have hb_n2 := hq
              have E1 := Sq
              have hr : rd 0 (untilF (max (max u0 u1) 0) now lea) = (untilF (max (max u0 u1) 0) now lea) := by unfold rd; omega
              rw [hr] at hb_n2
              refine w_gop rfl (fun _ => ?_) (fun hh => nomatch hh)
              refine w_not rfl ?_
              refine w_pick rfl (fun _ => ?_) (fun hh => nomatch hh)
              refine w_mv_bool rfl ?_
              refine w_mv_bool rfl ?_
              refine w_gop rfl (fun _ => ?_) (fun hh => nomatch hh)
              refine w_mv_ptr (evs' (gsn rfl (gsn rfl (gsn rfl (gsn rfl (gsn rfl (gsn rfl (gsn rfl f_p7)))))))) ?_
              refine w_gcall rfl (fun _ => ?_) (fun hh => nomatch hh)
              refine w_call (until_ok _ _ _ n2 _ _ _ _ _ _ _ _ _ hb_n2 E2 nf_n2_E2 lt_n2 (by simp) (by omega) (fun h15 hq Sq kp15 => ?_))
              have hb_n1 := kp15.get hb_n1 lt_n1 (ni1 (by omega))
              have hb_n3 := kp15.get hb_n3 lt_n3 (ni1 (by omega))
              have E1 := E1.keep kp15 (nF1 nf_n2_E1)
              have lt_n1 := kp15.lt lt_n1
              have lt_n2 := kp15.lt lt_n2
              have lt_n3 := kp15.lt lt_n3
              have hr : rd 0 (untilF (max (max u0 u1) 0) now lea) = (untilF (max (max u0 u1) 0) now lea) := by unfold rd; omega
              rw [hr] at hq ⊢
              have hu9 : untilF (max 1073741824 0) (untilF (max (max u0 u1) 0) now lea) [] = (untilF (max (max u0 u1) 0) now lea) := rfl
              rw [hu9]
              have hb_n2 := hq
              have E2 := Sq
              refine w_gop rfl (fun _ => ?_) (fun hh => nomatch hh)
              refine w_mv_int (evs' (gsn rfl (gsn rfl gse))) ?_
              refine w_gop rfl (fun _ => ?_) (fun hh => nomatch hh)
              refine w_ieq rfl rfl (fun c36 => ?_) (fun c36 => absurd rfl c36)
              refine w_pick rfl (fun _ => ?_) (fun hh => nomatch hh)
              refine w_mv_bool rfl ?_
              refine w_mv_bool rfl ?_
              refine w_kp ?_
              refine w_nil ?_
              refine w_ret ?_
              refine ens_ret1 gse ?_
              exact rfl
            ·
              refine w_gop rfl (fun _ => ?_) (fun hh => nomatch hh)
              refine w_mv_bool rfl ?_
              refine w_gop rfl (fun hh => nomatch hh) (fun _ => ?_)
              refine w_gop rfl (fun hh => nomatch hh) (fun _ => ?_)
              refine w_gop rfl (fun hh => nomatch hh) (fun _ => ?_)
              refine w_gop rfl (fun hh => nomatch hh) (fun _ => ?_)
              refine w_gcall rfl (fun hh => nomatch hh) (fun _ => ?_)
              refine w_gop rfl (fun hh => nomatch hh) (fun _ => ?_)
              refine w_gop rfl (fun _ => ?_) (fun hh => nomatch hh)
              refine w_pick rfl (fun hh => nomatch hh) (fun _ => ?_)
              refine w_mv_bool rfl ?_
              refine w_pick rfl (fun hh => nomatch hh) (fun _ => ?_)
              refine w_mv_bool rfl ?_
              refine w_mv_bool rfl ?_
              refine w_gop rfl (fun _ => ?_) (fun hh => nomatch hh)
              refine w_mv_ptr (evs' (gsn rfl (gsn rfl (gsn rfl (gsn rfl (gsn rfl (gsn rfl f_p7))))))) ?_
              refine w_gop rfl (fun _ => ?_) (fun hh => nomatch hh)
              refine w_mv_int (evs' (gsn rfl gse)) ?_
              refine w_gop rfl (fun _ => ?_) (fun hh => nomatch hh)
              refine w_mv_int (evs' (gsn rfl (gsn rfl (gsn rfl (gsn rfl gse))))) ?_
              refine w_gcall rfl (fun _ => ?_) (fun hh => nomatch hh)
              refine w_call (holds_ok _ _ _ n2 _ _ _ _ _ _ _ _ _ hb_n2 Z nf_n2_Z lt_n2 (by first | omega | simp) (by omega) (fun h10 t10 ht10 hq Sq kp10 => ?_))
              have hb_n1 := kp10.get hb_n1 lt_n1 (ni1 (by omega))
              have hb_n3 := kp10.get hb_n3 lt_n3 (ni1 (by omega))
              have U := U.keep kp10 (nF1 nf_n2_U)
              have A := A.keep kp10 (nF1 nf_n2_A)
              have lt_n1 := kp10.lt lt_n1
              have lt_n2 := kp10.lt lt_n2
              have lt_n3 := kp10.lt lt_n3
              have hr : rd (untilF (max (max u0 u1) 0) now lea) (untilF (max (min u0 u1) 0) now lea) = (untilF (max (max u0 u1) 0) now lea) := by unfold rd; omega
              rw [hr] at hq ht10
              have hu10 : untilF (max (max u0 u1) 0) (untilF (max (max u0 u1) 0) now lea) lea = max (untilF (max (max u0 u1) 0) now lea) (untilF (max (max u0 u1) 0) now lea) := untilF_up lea (by omega)
              rw [hu10] at ht10
              have hb_n2 := hq
              have Z := Sq
              obtain rfl : t10 = false := by rw [ht10]; exact decide_eq_false (by omega)
              refine w_pick rfl (fun hh => nomatch hh) (fun _ => ?_)
              refine w_mv_bool rfl ?_
              refine w_kp ?_
              refine w_nil ?_
              refine w_cond (evs' gse) (fun hh => nomatch hh) (fun _ => ?_)
              refine w_skip ?_
              refine w_seq ?_
              refine w_reg ?_
              refine w_mv_ptr (evs' (gsn rfl (gsn rfl (gsn rfl (gsn rfl (gsn rfl (gsn rfl (gsn rfl f_p7)))))))) ?_
              refine w_call (drop_ok _ _ _ n2 _ _ _ _ _ hb_n2 lt_n2 U.flat Z.flat (fun h11 hq kp11 => ?_))
              have hb_n1 := kp11.get hb_n1 lt_n1 (ni1 (by omega))
              have hb_n3 := kp11.get hb_n3 lt_n3 (ni1 (by omega))
              have U := U.keep kp11 (nF1 nf_n2_U)
              have Z := Z.keep kp11 (nF1 nf_n2_Z)
              have A := A.keep kp11 (nF1 nf_n2_A)
              have lt_n1 := kp11.lt lt_n1
              have lt_n2 := kp11.lt lt_n2
              have lt_n3 := kp11.lt lt_n3
              have hb_n2 := hq
              have E1 := Sl.nilsl 1 h11
              have E2 : Sl 2 h11 .nilsl [] (([] : List (Int × Int)).map le) := Sl.nilsl 2 h11
              have nf_n1_E1 : n1 ∉ ([] : List P) := ni0
              have nf_n1_E2 : n1 ∉ ([] : List P) := ni0
              have nf_n2_E1 : n2 ∉ ([] : List P) := ni0
              have nf_n2_E2 : n2 ∉ ([] : List P) := ni0
              have nf_n3_E1 : n3 ∉ ([] : List P) := ni0
              have nf_n3_E2 : n3 ∉ ([] : List P) := ni0
              have dj_E1_E2 : ∀ x ∈ ([] : List P), x ∉ ([] : List P) := nF0
              have dj_E2_E1 : ∀ x ∈ ([] : List P), x ∉ ([] : List P) := nF0
              refine w_nil ?_
              refine w_seq ?_
              refine w_reg ?_
              refine w_mv_ptr (evs' (gsn rfl (gsn rfl (gsn rfl (gsn rfl (gsn rfl (gsn rfl (gsn rfl f_p7)))))))) ?_
              refine w_call (holds_ok _ _ _ n2 _ _ _ _ _ _ _ _ _ hb_n2 E2 nf_n2_E2 lt_n2 (by first | omega | simp) (by omega) (fun h12 t12 ht12 hq Sq kp12 => ?_))
              have hb_n1 := kp12.get hb_n1 lt_n1 (ni1 (by omega))
              have hb_n3 := kp12.get hb_n3 lt_n3 (ni1 (by omega))
              have E1 := E1.keep kp12 (nF1 nf_n2_E1)
              have lt_n1 := kp12.lt lt_n1
              have lt_n2 := kp12.lt lt_n2
              have lt_n3 := kp12.lt lt_n3
              have hr : rd 0 (untilF (max (max u0 u1) 0) now lea) = (untilF (max (max u0 u1) 0) now lea) := by unfold rd; omega
              rw [hr] at hq ht12
              have hb_n2 := hq
              have E2 := Sq
              obtain rfl : t12 = false := by rw [ht12]; exact decide_eq_false (by simp [untilF])
              refine w_not rfl ?_
              refine w_mv_bool rfl ?_
              refine w_gop rfl (fun _ => ?_) (fun hh => nomatch hh)
              refine w_mv_ptr (evs' (gsn rfl (gsn rfl (gsn rfl (gsn rfl (gsn rfl (gsn rfl (gsn rfl f_p7)))))))) ?_
              refine w_gop rfl (fun _ => ?_) (fun hh => nomatch hh)
              refine w_ldn (evs' (gsn rfl (gsn rfl (gsn rfl (gsn rfl (gsn rfl (gsn rfl (gsn rfl f_p9)))))))) hb_n3 rfl ?_
              refine w_gcall rfl (fun _ => ?_) (fun hh => nomatch hh)
              refine w_call (take_unknown _ _ _ n2 _ _ _ _ _ _ _ _ _ _ _ hb_n2 E1 nf_n2_E1 lt_n2 (by first | omega | simp) (by omega) (fun e he => nomatch he) (fun h13 hq Sq kp13 => ?_))
              have hb_n1 := kp13.get hb_n1 lt_n1 (ni1 (by omega))
              have hb_n3 := kp13.get hb_n3 lt_n3 (ni1 (by omega))
              have E2 := E2.keep kp13 (nF1 nf_n2_E2)
              have lt_n1 := kp13.lt lt_n1
              have lt_n2 := kp13.lt lt_n2
              have lt_n3 := kp13.lt lt_n3
              have hb_n2 := hq
              have E1 := Sq
              have hr : rd 0 (untilF (max (max u0 u1) 0) now lea) = (untilF (max (max u0 u1) 0) now lea) := by unfold rd; omega
              rw [hr] at hb_n2
              refine w_gop rfl (fun _ => ?_) (fun hh => nomatch hh)
              refine w_not rfl ?_
              refine w_pick rfl (fun _ => ?_) (fun hh => nomatch hh)
              refine w_mv_bool rfl ?_
              refine w_mv_bool rfl ?_
              refine w_gop rfl (fun _ => ?_) (fun hh => nomatch hh)
              refine w_mv_ptr (evs' (gsn rfl (gsn rfl (gsn rfl (gsn rfl (gsn rfl (gsn rfl (gsn rfl f_p7)))))))) ?_
              refine w_gcall rfl (fun _ => ?_) (fun hh => nomatch hh)
              refine w_call (until_ok _ _ _ n2 _ _ _ _ _ _ _ _ _ hb_n2 E2 nf_n2_E2 lt_n2 (by simp) (by omega) (fun h14 hq Sq kp14 => ?_))
              have hb_n1 := kp14.get hb_n1 lt_n1 (ni1 (by omega))
              have hb_n3 := kp14.get hb_n3 lt_n3 (ni1 (by omega))
              have E1 := E1.keep kp14 (nF1 nf_n2_E1)
              have lt_n1 := kp14.lt lt_n1
              have lt_n2 := kp14.lt lt_n2
              have lt_n3 := kp14.lt lt_n3
              have hr : rd 0 (untilF (max (max u0 u1) 0) now lea) = (untilF (max (max u0 u1) 0) now lea) := by unfold rd; omega
              rw [hr] at hq ⊢
              have hu9 : untilF (max 1073741824 0) (untilF (max (max u0 u1) 0) now lea) [] = (untilF (max (max u0 u1) 0) now lea) := rfl
              rw [hu9]
              have hb_n2 := hq
              have E2 := Sq
              refine w_gop rfl (fun _ => ?_) (fun hh => nomatch hh)
              refine w_mv_int (evs' (gsn rfl (gsn rfl gse))) ?_
              refine w_gop rfl (fun _ => ?_) (fun hh => nomatch hh)
              refine w_ieq rfl rfl (fun c37 => ?_) (fun c37 => absurd rfl c37)
              refine w_pick rfl (fun _ => ?_) (fun hh => nomatch hh)
              refine w_mv_bool rfl ?_
              refine w_mv_bool rfl ?_
              refine w_kp ?_
              refine w_nil ?_
              refine w_ret ?_
              refine ens_ret1 gse ?_
              exact rfl
          ·
            refine w_mv_bool rfl ?_
            refine w_gop rfl (fun hh => nomatch hh) (fun _ => ?_)
            refine w_gop rfl (fun hh => nomatch hh) (fun _ => ?_)
            refine w_gop rfl (fun hh => nomatch hh) (fun _ => ?_)
            refine w_gop rfl (fun hh => nomatch hh) (fun _ => ?_)
            refine w_gcall rfl (fun hh => nomatch hh) (fun _ => ?_)
            refine w_gop rfl (fun hh => nomatch hh) (fun _ => ?_)
            refine w_pick rfl (fun hh => nomatch hh) (fun _ => ?_)
            refine w_mv_bool rfl ?_
            refine w_mv_bool rfl ?_
            refine w_gop rfl (fun _ => ?_) (fun hh => nomatch hh)
            refine w_mv_ptr (evs' (gsn rfl (gsn rfl (gsn rfl (gsn rfl (gsn rfl (gsn rfl f_p7))))))) ?_
            refine w_gop rfl (fun _ => ?_) (fun hh => nomatch hh)
            refine w_mv_int (evs' (gsn rfl (gsn rfl gse))) ?_
            refine w_gop rfl (fun _ => ?_) (fun hh => nomatch hh)
            refine w_mv_int (evs' (gsn rfl (gsn rfl (gsn rfl gse)))) ?_
            refine w_gcall rfl (fun _ => ?_) (fun hh => nomatch hh)
            refine w_call (holds_ok _ _ _ n2 _ _ _ _ _ _ _ _ _ hb_n2 Z nf_n2_Z lt_n2 (by first | omega | simp) (by omega) (fun h8 t8 ht8 hq Sq kp8 => ?_))
            have hb_n1 := kp8.get hb_n1 lt_n1 (ni1 (by omega))
            have hb_n3 := kp8.get hb_n3 lt_n3 (ni1 (by omega))
            have U := U.keep kp8 (nF1 nf_n2_U)
            have A := A.keep kp8 (nF1 nf_n2_A)
            have lt_n1 := kp8.lt lt_n1
            have lt_n2 := kp8.lt lt_n2
            have lt_n3 := kp8.lt lt_n3
            have hr : rd (untilF (max (min u0 u1) 0) now lea) now = (untilF (max (min u0 u1) 0) now lea) := by unfold rd; omega
            rw [hr] at hq ht8
            have hu8 : untilF (max (min u0 u1) 0) (untilF (max (min u0 u1) 0) now lea) lea = max (untilF (max (min u0 u1) 0) now lea) (untilF (max (min u0 u1) 0) now lea) := untilF_up lea (by omega)
            rw [hu8] at ht8
            have hb_n2 := hq
            have Z := Sq
            obtain rfl : t8 = false := by rw [ht8]; exact decide_eq_false (by omega)
            refine w_pick rfl (fun hh => nomatch hh) (fun _ => ?_)
            refine w_mv_bool rfl ?_
            refine w_mv_bool rfl ?_
            refine w_gop rfl (fun _ => ?_) (fun hh => nomatch hh)
            refine w_mv_int (evs' (gsn rfl gse)) ?_
            refine w_gop rfl (fun _ => ?_) (fun hh => nomatch hh)
            refine w_mv_int (evs' (gsn rfl (gsn rfl gse))) ?_
            refine w_gop rfl (fun _ => ?_) (fun hh => nomatch hh)
            refine w_gt rfl rfl (fun c38 => ?_) (fun c38 => ?_)
            ·
              refine w_gop rfl (fun _ => ?_) (fun hh => nomatch hh)
              refine w_mv_bool rfl ?_
              refine w_gop rfl (fun _ => ?_) (fun hh => nomatch hh)
              refine w_mv_ptr (evs' (gsn rfl (gsn rfl (gsn rfl (gsn rfl (gsn rfl (gsn rfl f_p7))))))) ?_
              refine w_gop rfl (fun _ => ?_) (fun hh => nomatch hh)
              refine w_mv_int (evs' (gsn rfl gse)) ?_
              refine w_gop rfl (fun _ => ?_) (fun hh => nomatch hh)
              refine w_sub rfl rfl (wr64 (by omega) (by omega)) ?_
              refine w_gop rfl (fun _ => ?_) (fun hh => nomatch hh)
              refine w_mv_int (evs' (gsn rfl (gsn rfl (gsn rfl (gsn rfl gse))))) ?_
              refine w_gcall rfl (fun _ => ?_) (fun hh => nomatch hh)
              refine w_call (holds_ok _ _ _ n2 _ _ _ _ _ _ _ _ _ hb_n2 Z nf_n2_Z lt_n2 (by first | omega | simp) (by omega) (fun h9 t9 ht9 hq Sq kp9 => ?_))
              have hb_n1 := kp9.get hb_n1 lt_n1 (ni1 (by omega))
              have hb_n3 := kp9.get hb_n3 lt_n3 (ni1 (by omega))
              have U := U.keep kp9 (nF1 nf_n2_U)
              have A := A.keep kp9 (nF1 nf_n2_A)
              have lt_n1 := kp9.lt lt_n1
              have lt_n2 := kp9.lt lt_n2
              have lt_n3 := kp9.lt lt_n3
              have hr : rd ((untilF (max (max u0 u1) 0) now lea) - 1) (untilF (max (min u0 u1) 0) now lea) = ((untilF (max (max u0 u1) 0) now lea) - 1) := by unfold rd; omega
              rw [hr] at hq ht9
              have hu9 : untilF (max (max u0 u1) 0) ((untilF (max (max u0 u1) 0) now lea) - 1) lea = max ((untilF (max (max u0 u1) 0) now lea) - 1) (untilF (max (max u0 u1) 0) now lea) := untilF_up lea (by omega)
              rw [hu9] at ht9
              have hb_n2 := hq
              have Z := Sq
              obtain rfl : t9 = true := by rw [ht9]; exact decide_eq_true (by omega)
              refine w_gop rfl (fun _ => ?_) (fun hh => nomatch hh)
              refine w_not rfl ?_
              refine w_gop rfl (fun _ => ?_) (fun hh => nomatch hh)
              refine w_pick rfl (fun _ => ?_) (fun hh => nomatch hh)
              refine w_mv_bool rfl ?_
              refine w_pick rfl (fun hh => nomatch hh) (fun _ => ?_)
              refine w_mv_bool rfl ?_
              refine w_mv_bool rfl ?_
              refine w_gop rfl (fun _ => ?_) (fun hh => nomatch hh)
              refine w_mv_ptr (evs' (gsn rfl (gsn rfl (gsn rfl (gsn rfl (gsn rfl (gsn rfl f_p7))))))) ?_
              refine w_gop rfl (fun _ => ?_) (fun hh => nomatch hh)
              refine w_mv_int (evs' (gsn rfl gse)) ?_
              refine w_gop rfl (fun _ => ?_) (fun hh => nomatch hh)
              refine w_mv_int (evs' (gsn rfl (gsn rfl (gsn rfl (gsn rfl gse))))) ?_
              refine w_gcall rfl (fun _ => ?_) (fun hh => nomatch hh)
              refine w_call (holds_ok _ _ _ n2 _ _ _ _ _ _ _ _ _ hb_n2 Z nf_n2_Z lt_n2 (by first | omega | simp) (by omega) (fun h10 t10 ht10 hq Sq kp10 => ?_))
              have hb_n1 := kp10.get hb_n1 lt_n1 (ni1 (by omega))
              have hb_n3 := kp10.get hb_n3 lt_n3 (ni1 (by omega))
              have U := U.keep kp10 (nF1 nf_n2_U)
              have A := A.keep kp10 (nF1 nf_n2_A)
              have lt_n1 := kp10.lt lt_n1
              have lt_n2 := kp10.lt lt_n2
              have lt_n3 := kp10.lt lt_n3
              have hr : rd (untilF (max (max u0 u1) 0) now lea) ((untilF (max (max u0 u1) 0) now lea) - 1) = (untilF (max (max u0 u1) 0) now lea) := by unfold rd; omega
              rw [hr] at hq ht10
              have hu10 : untilF (max (max u0 u1) 0) (untilF (max (max u0 u1) 0) now lea) lea = max (untilF (max (max u0 u1) 0) now lea) (untilF (max (max u0 u1) 0) now lea) := untilF_up lea (by omega)
              rw [hu10] at ht10
              have hb_n2 := hq
              have Z := Sq
              obtain rfl : t10 = false := by rw [ht10]; exact decide_eq_false (by omega)
              refine w_pick rfl (fun hh => nomatch hh) (fun _ => ?_)
              refine w_mv_bool rfl ?_
              refine w_kp ?_
              refine w_nil ?_
              refine w_cond (evs' gse) (fun hh => nomatch hh) (fun _ => ?_)
              refine w_skip ?_
              refine w_seq ?_
              refine w_reg ?_
              refine w_mv_ptr (evs' (gsn rfl (gsn rfl (gsn rfl (gsn rfl (gsn rfl (gsn rfl (gsn rfl f_p7)))))))) ?_
              refine w_call (drop_ok _ _ _ n2 _ _ _ _ _ hb_n2 lt_n2 U.flat Z.flat (fun h11 hq kp11 => ?_))
              have hb_n1 := kp11.get hb_n1 lt_n1 (ni1 (by omega))
              have hb_n3 := kp11.get hb_n3 lt_n3 (ni1 (by omega))
              have U := U.keep kp11 (nF1 nf_n2_U)
              have Z := Z.keep kp11 (nF1 nf_n2_Z)
              have A := A.keep kp11 (nF1 nf_n2_A)
              have lt_n1 := kp11.lt lt_n1
              have lt_n2 := kp11.lt lt_n2
              have lt_n3 := kp11.lt lt_n3
              have hb_n2 := hq
              have E1 := Sl.nilsl 1 h11
              have E2 : Sl 2 h11 .nilsl [] (([] : List (Int × Int)).map le) := Sl.nilsl 2 h11
              have nf_n1_E1 : n1 ∉ ([] : List P) := ni0
              have nf_n1_E2 : n1 ∉ ([] : List P) := ni0
              have nf_n2_E1 : n2 ∉ ([] : List P) := ni0
              have nf_n2_E2 : n2 ∉ ([] : List P) := ni0
              have nf_n3_E1 : n3 ∉ ([] : List P) := ni0
              have nf_n3_E2 : n3 ∉ ([] : List P) := ni0
              have dj_E1_E2 : ∀ x ∈ ([] : List P), x ∉ ([] : List P) := nF0
              have dj_E2_E1 : ∀ x ∈ ([] : List P), x ∉ ([] : List P) := nF0
              refine w_nil ?_
              refine w_seq ?_
              refine w_reg ?_
              refine w_mv_ptr (evs' (gsn rfl (gsn rfl (gsn rfl (gsn rfl (gsn rfl (gsn rfl (gsn rfl f_p7)))))))) ?_
              refine w_call (holds_ok _ _ _ n2 _ _ _ _ _ _ _ _ _ hb_n2 E2 nf_n2_E2 lt_n2 (by first | omega | simp) (by omega) (fun h12 t12 ht12 hq Sq kp12 => ?_))
              have hb_n1 := kp12.get hb_n1 lt_n1 (ni1 (by omega))
              have hb_n3 := kp12.get hb_n3 lt_n3 (ni1 (by omega))
              have E1 := E1.keep kp12 (nF1 nf_n2_E1)
              have lt_n1 := kp12.lt lt_n1
              have lt_n2 := kp12.lt lt_n2
              have lt_n3 := kp12.lt lt_n3
              have hr : rd 0 (untilF (max (max u0 u1) 0) now lea) = (untilF (max (max u0 u1) 0) now lea) := by unfold rd; omega
              rw [hr] at hq ht12
              have hb_n2 := hq
              have E2 := Sq
              obtain rfl : t12 = false := by rw [ht12]; exact decide_eq_false (by simp [untilF])
              refine w_not rfl ?_
              refine w_mv_bool rfl ?_
              refine w_gop rfl (fun _ => ?_) (fun hh => nomatch hh)
              refine w_mv_ptr (evs' (gsn rfl (gsn rfl (gsn rfl (gsn rfl (gsn rfl (gsn rfl (gsn rfl f_p7)))))))) ?_
              refine w_gop rfl (fun _ => ?_) (fun hh => nomatch hh)
              refine w_ldn (evs' (gsn rfl (gsn rfl (gsn rfl (gsn rfl (gsn rfl (gsn rfl (gsn rfl f_p9)))))))) hb_n3 rfl ?_
              refine w_gcall rfl (fun _ => ?_) (fun hh => nomatch hh)
              refine w_call (take_unknown _ _ _ n2 _ _ _ _ _ _ _ _ _ _ _ hb_n2 E1 nf_n2_E1 lt_n2 (by first | omega | simp) (by omega) (fun e he => nomatch he) (fun h13 hq Sq kp13 => ?_))
              have hb_n1 := kp13.get hb_n1 lt_n1 (ni1 (by omega))
              have hb_n3 := kp13.get hb_n3 lt_n3 (ni1 (by omega))
              have E2 := E2.keep kp13 (nF1 nf_n2_E2)
              have lt_n1 := kp13.lt lt_n1
              have lt_n2 := kp13.lt lt_n2
              have lt_n3 := kp13.lt lt_n3
              have hb_n2 := hq
              have E1 := Sq
              have hr : rd 0 (untilF (max (max u0 u1) 0) now lea) = (untilF (max (max u0 u1) 0) now lea) := by unfold rd; omega
              rw [hr] at hb_n2
              refine w_gop rfl (fun _ => ?_) (fun hh => nomatch hh)
              refine w_not rfl ?_
              refine w_pick rfl (fun _ => ?_) (fun hh => nomatch hh)
              refine w_mv_bool rfl ?_
              refine w_mv_bool rfl ?_
              refine w_gop rfl (fun _ => ?_) (fun hh => nomatch hh)
              refine w_mv_ptr (evs' (gsn rfl (gsn rfl (gsn rfl (gsn rfl (gsn rfl (gsn rfl (gsn rfl f_p7)))))))) ?_
              refine w_gcall rfl (fun _ => ?_) (fun hh => nomatch hh)
              refine w_call (until_ok _ _ _ n2 _ _ _ _ _ _ _ _ _ hb_n2 E2 nf_n2_E2 lt_n2 (by simp) (by omega) (fun h14 hq Sq kp14 => ?_))
              have hb_n1 := kp14.get hb_n1 lt_n1 (ni1 (by omega))
              have hb_n3 := kp14.get hb_n3 lt_n3 (ni1 (by omega))
              have E1 := E1.keep kp14 (nF1 nf_n2_E1)
              have lt_n1 := kp14.lt lt_n1
              have lt_n2 := kp14.lt lt_n2
              have lt_n3 := kp14.lt lt_n3
              have hr : rd 0 (untilF (max (max u0 u1) 0) now lea) = (untilF (max (max u0 u1) 0) now lea) := by unfold rd; omega
              rw [hr] at hq ⊢
              have hu9 : untilF (max 1073741824 0) (untilF (max (max u0 u1) 0) now lea) [] = (untilF (max (max u0 u1) 0) now lea) := rfl
              rw [hu9]
              have hb_n2 := hq
              have E2 := Sq
              refine w_gop rfl (fun _ => ?_) (fun hh => nomatch hh)
              refine w_mv_int (evs' (gsn rfl (gsn rfl gse))) ?_
              refine w_gop rfl (fun _ => ?_) (fun hh => nomatch hh)
              refine w_ieq rfl rfl (fun c39 => ?_) (fun c39 => absurd rfl c39)
              refine w_pick rfl (fun _ => ?_) (fun hh => nomatch hh)
              refine w_mv_bool rfl ?_
              refine w_mv_bool rfl ?_
              refine w_kp ?_
              refine w_nil ?_
              refine w_ret ?_
              refine ens_ret1 gse ?_
              exact rfl
            ·
              refine w_gop rfl (fun _ => ?_) (fun hh => nomatch hh)
              refine w_mv_bool rfl ?_
              refine w_gop rfl (fun hh => nomatch hh) (fun _ => ?_)
              refine w_gop rfl (fun hh => nomatch hh) (fun _ => ?_)
              refine w_gop rfl (fun hh => nomatch hh) (fun _ => ?_)
              refine w_gop rfl (fun hh => nomatch hh) (fun _ => ?_)
              refine w_gcall rfl (fun hh => nomatch hh) (fun _ => ?_)
              refine w_gop rfl (fun hh => nomatch hh) (fun _ => ?_)
              refine w_gop rfl (fun _ => ?_) (fun hh => nomatch hh)
              refine w_pick rfl (fun hh => nomatch hh) (fun _ => ?_)
              refine w_mv_bool rfl ?_
              refine w_pick rfl (fun hh => nomatch hh) (fun _ => ?_)
              refine w_mv_bool rfl ?_
              refine w_mv_bool rfl ?_
              refine w_gop rfl (fun _ => ?_) (fun hh => nomatch hh)
              refine w_mv_ptr (evs' (gsn rfl (gsn rfl (gsn rfl (gsn rfl (gsn rfl (gsn rfl f_p7))))))) ?_
              refine w_gop rfl (fun _ => ?_) (fun hh => nomatch hh)
              refine w_mv_int (evs' (gsn rfl gse)) ?_
              refine w_gop rfl (fun _ => ?_) (fun hh => nomatch hh)
              refine w_mv_int (evs' (gsn rfl (gsn rfl (gsn rfl (gsn rfl gse))))) ?_
              refine w_gcall rfl (fun _ => ?_) (fun hh => nomatch hh)
              refine w_call (holds_ok _ _ _ n2 _ _ _ _ _ _ _ _ _ hb_n2 Z nf_n2_Z lt_n2 (by first | omega | simp) (by omega) (fun h9 t9 ht9 hq Sq kp9 => ?_))
              have hb_n1 := kp9.get hb_n1 lt_n1 (ni1 (by omega))
              have hb_n3 := kp9.get hb_n3 lt_n3 (ni1 (by omega))
              have U := U.keep kp9 (nF1 nf_n2_U)
              have A := A.keep kp9 (nF1 nf_n2_A)
              have lt_n1 := kp9.lt lt_n1
              have lt_n2 := kp9.lt lt_n2
              have lt_n3 := kp9.lt lt_n3
              have hr : rd (untilF (max (max u0 u1) 0) now lea) (untilF (max (min u0 u1) 0) now lea) = (untilF (max (max u0 u1) 0) now lea) := by unfold rd; omega
              rw [hr] at hq ht9
              have hu9 : untilF (max (max u0 u1) 0) (untilF (max (max u0 u1) 0) now lea) lea = max (untilF (max (max u0 u1) 0) now lea) (untilF (max (max u0 u1) 0) now lea) := untilF_up lea (by omega)
              rw [hu9] at ht9
              have hb_n2 := hq
              have Z := Sq
              obtain rfl : t9 = false := by rw [ht9]; exact decide_eq_false (by omega)
              refine w_pick rfl (fun hh => nomatch hh) (fun _ => ?_)
              refine w_mv_bool rfl ?_
              refine w_kp ?_
              refine w_nil ?_
              refine w_cond (evs' gse) (fun hh => nomatch hh) (fun _ => ?_)
              refine w_skip ?_
              refine w_seq ?_
              refine w_reg ?_
              refine w_mv_ptr (evs' (gsn rfl (gsn rfl (gsn rfl (gsn rfl (gsn rfl (gsn rfl (gsn rfl f_p7)))))))) ?_
              refine w_call (drop_ok _ _ _ n2 _ _ _ _ _ hb_n2 lt_n2 U.flat Z.flat (fun h10 hq kp10 => ?_))
              have hb_n1 := kp10.get hb_n1 lt_n1 (ni1 (by omega))
              have hb_n3 := kp10.get hb_n3 lt_n3 (ni1 (by omega))
              have U := U.keep kp10 (nF1 nf_n2_U)
              have Z := Z.keep kp10 (nF1 nf_n2_Z)
              have A := A.keep kp10 (nF1 nf_n2_A)
              have lt_n1 := kp10.lt lt_n1
              have lt_n2 := kp10.lt lt_n2
              have lt_n3 := kp10.lt lt_n3
              have hb_n2 := hq
              have E1 := Sl.nilsl 1 h10
              have E2 : Sl 2 h10 .nilsl [] (([] : List (Int × Int)).map le) := Sl.nilsl 2 h10
              have nf_n1_E1 : n1 ∉ ([] : List P) := ni0
              have nf_n1_E2 : n1 ∉ ([] : List P) := ni0
              have nf_n2_E1 : n2 ∉ ([] : List P) := ni0
              have nf_n2_E2 : n2 ∉ ([] : List P) := ni0
              have nf_n3_E1 : n3 ∉ ([] : List P) := ni0
              have nf_n3_E2 : n3 ∉ ([] : List P) := ni0
              have dj_E1_E2 : ∀ x ∈ ([] : List P), x ∉ ([] : List P) := nF0
              have dj_E2_E1 : ∀ x ∈ ([] : List P), x ∉ ([] : List P) := nF0
              refine w_nil ?_
              refine w_seq ?_
              refine w_reg ?_
              refine w_mv_ptr (evs' (gsn rfl (gsn rfl (gsn rfl (gsn rfl (gsn rfl (gsn rfl (gsn rfl f_p7)))))))) ?_
              refine w_call (holds_ok _ _ _ n2 _ _ _ _ _ _ _ _ _ hb_n2 E2 nf_n2_E2 lt_n2 (by first | omega | simp) (by omega) (fun h11 t11 ht11 hq Sq kp11 => ?_))
              have hb_n1 := kp11.get hb_n1 lt_n1 (ni1 (by omega))
              have hb_n3 := kp11.get hb_n3 lt_n3 (ni1 (by omega))
              have E1 := E1.keep kp11 (nF1 nf_n2_E1)
              have lt_n1 := kp11.lt lt_n1
              have lt_n2 := kp11.lt lt_n2
              have lt_n3 := kp11.lt lt_n3
              have hr : rd 0 (untilF (max (max u0 u1) 0) now lea) = (untilF (max (max u0 u1) 0) now lea) := by unfold rd; omega
              rw [hr] at hq ht11
              have hb_n2 := hq
              have E2 := Sq
              obtain rfl : t11 = false := by rw [ht11]; exact decide_eq_false (by simp [untilF])
              refine w_not rfl ?_
              refine w_mv_bool rfl ?_
              refine w_gop rfl (fun _ => ?_) (fun hh => nomatch hh)
              refine w_mv_ptr (evs' (gsn rfl (gsn rfl (gsn rfl (gsn rfl (gsn rfl (gsn rfl (gsn rfl f_p7)))))))) ?_
              refine w_gop rfl (fun _ => ?_) (fun hh => nomatch hh)
              refine w_ldn (evs' (gsn rfl (gsn rfl (gsn rfl (gsn rfl (gsn rfl (gsn rfl (gsn rfl f_p9)))))))) hb_n3 rfl ?_
              refine w_gcall rfl (fun _ => ?_) (fun hh => nomatch hh)
              refine w_call (take_unknown _ _ _ n2 _ _ _ _ _ _ _ _ _ _ _ hb_n2 E1 nf_n2_E1 lt_n2 (by first | omega | simp) (by omega) (fun e he => nomatch he) (fun h12 hq Sq kp12 => ?_))
              have hb_n1 := kp12.get hb_n1 lt_n1 (ni1 (by omega))
              have hb_n3 := kp12.get hb_n3 lt_n3 (ni1 (by omega))
              have E2 := E2.keep kp12 (nF1 nf_n2_E2)
              have lt_n1 := kp12.lt lt_n1
              have lt_n2 := kp12.lt lt_n2
              have lt_n3 := kp12.lt lt_n3
              have hb_n2 := hq
              have E1 := Sq
              have hr : rd 0 (untilF (max (max u0 u1) 0) now lea) = (untilF (max (max u0 u1) 0) now lea) := by unfold rd; omega
              rw [hr] at hb_n2
              refine w_gop rfl (fun _ => ?_) (fun hh => nomatch hh)
              refine w_not rfl ?_
              refine w_pick rfl (fun _ => ?_) (fun hh => nomatch hh)
              refine w_mv_bool rfl ?_
              refine w_mv_bool rfl ?_
              refine w_gop rfl (fun _ => ?_) (fun hh => nomatch hh)
              refine w_mv_ptr (evs' (gsn rfl (gsn rfl (gsn rfl (gsn rfl (gsn rfl (gsn rfl (gsn rfl f_p7)))))))) ?_
              refine w_gcall rfl (fun _ => ?_) (fun hh => nomatch hh)
              refine w_call (until_ok _ _ _ n2 _ _ _ _ _ _ _ _ _ hb_n2 E2 nf_n2_E2 lt_n2 (by simp) (by omega) (fun h13 hq Sq kp13 => ?_))
              have hb_n1 := kp13.get hb_n1 lt_n1 (ni1 (by omega))
              have hb_n3 := kp13.get hb_n3 lt_n3 (ni1 (by omega))
              have E1 := E1.keep kp13 (nF1 nf_n2_E1)
              have lt_n1 := kp13.lt lt_n1
              have lt_n2 := kp13.lt lt_n2
              have lt_n3 := kp13.lt lt_n3
              have hr : rd 0 (untilF (max (max u0 u1) 0) now lea) = (untilF (max (max u0 u1) 0) now lea) := by unfold rd; omega
              rw [hr] at hq ⊢
              have hu9 : untilF (max 1073741824 0) (untilF (max (max u0 u1) 0) now lea) [] = (untilF (max (max u0 u1) 0) now lea) := rfl
              rw [hu9]
              have hb_n2 := hq
              have E2 := Sq
              refine w_gop rfl (fun _ => ?_) (fun hh => nomatch hh)
              refine w_mv_int (evs' (gsn rfl (gsn rfl gse))) ?_
              refine w_gop rfl (fun _ => ?_) (fun hh => nomatch hh)
              refine w_ieq rfl rfl (fun c40 => ?_) (fun c40 => absurd rfl c40)
              refine w_pick rfl (fun _ => ?_) (fun hh => nomatch hh)
              refine w_mv_bool rfl ?_
              refine w_mv_bool rfl ?_
              refine w_kp ?_
              refine w_nil ?_
              refine w_ret ?_
              refine ens_ret1 gse ?_
              exact rfl
end Go.Am
namespace Go.Proofs.Ytfgolglgogmniaa
open Go.ChangeShapes Go.WideShapes Go.ChangeAt Go.RowKit Go.Am

theorem own4 : ownKnob Try.prog.godebug = none := by kernel_rfl
theorem tab4 : tabOk Try.prog = true := by kernel_rfl
theorem ng4 : Try.prog.globals.size = 0 := by kernel_rfl
theorem elem_act {xs : List (List V)} (h : ∀ y ∈ xs, Elem [.u8, .i64, .i64, .i64, .i64] y) : ∀ e ∈ xs, ∃ k a b c d, e = [.int .u8 k, .int .i64 a, .int .i64 b, .int .i64 c, .int .i64 d] := by
  intro e he
  obtain ⟨n0, y0, rfl, _, hy⟩ := (h e he).cons
  obtain ⟨n1, y1, rfl, _, hy⟩ := hy.cons
  obtain ⟨n2, y2, rfl, _, hy⟩ := hy.cons
  obtain ⟨n3, y3, rfl, _, hy⟩ := hy.cons
  obtain ⟨n4, y4, rfl, _, hy⟩ := hy.cons
  obtain rfl := hy.nil
  exact ⟨n0, n1, n2, n3, n4, rfl⟩
/-- an array of two small integers -/
theorem open_arr2 {α : Type} {enc : TypeId × Value → α} {W : World} {base : Nat} {v : Value} {d : DataW α} {ps : List MemPlace} (hval : Value.okWide Try.prog W .any base 35 v) (hd : DataW.Trod enc Try.prog W 0 (fun _ => true) true 35 v d ps) :
    ∃ a b, v = .agg #[.int .u8 a, .int .u8 b] ∧ (0 ≤ a ∧ a < 256) ∧ (0 ≤ b ∧ b < 256) := by
  have hv : ∃ cs, v = .agg cs := by
    have h1 : Try.prog.underlying 35 = some (.array 2 5) := by kernel_rfl
    have h2 := hval
    unfold Value.okWide at h2
    rw [h1] at h2
    cases v <;> first | exact ⟨_, rfl⟩ | (simp at h2)
  obtain ⟨cs, rfl⟩ := hv
  obtain ⟨fuel, hd⟩ := hd
  have hi := shape_ok (P := Try.prog) 3 35 [.u8, .u8] (by kernel_rfl) (by kernel_rfl) fuel _ _ hd
  have hcs : (Value.agg cs).cells.toList = cs.toList := rfl
  rw [hcs] at hi
  obtain ⟨l⟩ := cs
  match l, hi with
  | [x, y], hi =>
    obtain ⟨a, rfl, ha⟩ := hi.2 0 .u8 x rfl rfl
    obtain ⟨b, rfl, hb⟩ := hi.2 1 .u8 y rfl rfl
    exact ⟨a, b, rfl, wf_u8 ha, wf_u8 hb⟩
  | [], hi => exact absurd hi.1 (by simp)
  | [x], hi => exact absurd hi.1 (by simp)
  | x :: y :: z :: r, hi => exact absurd hi.1 (by simp)

set_option maxRecDepth 100000 in
theorem leaseEnds_lifted (os : Os) (started : os.Started) (H : Type) (enc : TypeId × Value → H) :
    ReturnsInHanded {} Try.checked os 4 .any (Rows.leaseEndsSpec.pre6 enc Try.prog Try.f4 Rows.leaseEndsRow.domain false) (Rows.leaseEndsSpec.post enc Try.prog Try.f4 false true false false) := by
  refine returnsInHanded_of_change (C := Try.checked) own4 started (by kernel_rfl) Try.func4
    (ChangeSpec.witness6 (enc := enc) (C := Try.checked) false ⟨#[], #[.int .i64 0, .slice none 0 0, .agg #[.int .u8 0, .int .u8 0]], []⟩ 8 (by kernel_rfl) (by kernel_rfl) (by kernel_rfl) (by kernel_rfl)) ?_
  intro W base args ds gs before hval0 hW hcnd _
  have hval : ∀ (j : Nat) t v, Try.f4.params[j]? = some t → args[j]? = some v → Value.okWide Try.prog W .any base t v := hval0
  have hW' := hW
  obtain ⟨p, q, hA0, hV, rfl, hfz, hnd⟩ := hW
  have hA : DataW.TrodAll enc Try.prog W 0 (fun _ => true) true Try.f4.params.toList args.toList ds p := hA0
  rw [Try.params4] at hA hval
  obtain ⟨v0, vs0, d0, ds0, q0, r0, hargs, rfl, rfl, h0, hA⟩ := trodAll_cons hA
  obtain ⟨v1, vs1, d1, ds1, q1, r1, rfl, rfl, rfl, h1, hA⟩ := trodAll_cons hA
  obtain ⟨v2, vs2, d2, ds2, q2, r2, rfl, rfl, rfl, h2, hA⟩ := trodAll_cons hA
  obtain ⟨rfl, rfl, rfl⟩ := trodAll_nil hA
  obtain rfl : args = #[v0, v1, v2] := by cases args; simp_all
  obtain ⟨n, rfl, rfl, rfl, wa⟩ := open_int (k := .i64) (t := 3) (by kernel_rfl) (hval 0 3 v0 rfl rfl) h0
  obtain ⟨l1, o1, f1, x1, b1, b2, b3, b4⟩ := arg_sl (P := Try.prog) (e := 38) (sh := [.u8, .i64, .i64, .i64, .i64]) (d := 3) (by kernel_rfl) (by kernel_rfl) (by kernel_rfl) (by decide) (hval 1 34 v1 rfl rfl) h1
  obtain ⟨u0, u1, rfl, hu0, hu1⟩ := open_arr2 (hval 2 35 v2 rfl rfl) h2
  have hcf := cf_ok 100000 20
  rw [ng4] at hcf
  have g : Given 0 [l1] [o1] W := ⟨rfl, fun i l cs e1 e2 => by
    rcases i with _ | i
    · obtain rfl := Option.some.inj e1; exact b2 _ cs (Option.some.inj e2)
    · simp at e1⟩
  obtain ⟨h, aw⟩ := awakeE o1 u0 u1
  have n0 : (P.of 0).num = 0 := P.num_of 0
  have n1 : (P.of 1).num = 1 := P.num_of 1
  have hlt := aw.lt
  obtain ⟨FA, hF, hA2⟩ := b3 h (P.of 0) aw.get (by omega)
  have run := ends_ok 100000 (by decide) (H0 0 [o1]) h (P.of 1) rfl (f1 (P.of 0)) FA x1 n u0 u1 aw.run aw.run2 aw.arr (by omega) (fun hc => by have := congrArg P.num (hF _ hc); omega) hA2 (elem_act b4) hu0 hu1
  refine (law_calls (p := p4) hcf Try.func4 (by kernel_rfl) (of_decide_eq_true (by kernel_rfl)) g ?_ (AllTrue.of_ens run)).mono fun e W' ⟨he, ho⟩ => ?_
  · refine VRs.cons (.int _ _) (VRs.cons (b1 _ _ (io0_at 0 [l1] (i := 0) rfl)) (VRs.cons ?_ (VRs.nil _)))
    refine VR.of_agg ⟨VRs.cons (.int _ _) (VRs.cons (.int _ _) (VRs.nil _)), ?_⟩
    intro v hv
    simp at hv
    rcases hv with rfl | rfl <;> rfl
  subst he
  exact ⟨_, rfl, law_post tab4 (by kernel_rfl) (tb := 4) (by kernel_rfl) (by kernel_rfl) rfl rfl hW' ho⟩

theorem leaseEnds_holds : Rows.LeaseEndsSaid :=
  OpenClaim.holds_of_wide 4 Try.f4 rfl rfl rfl rfl rfl rfl rfl ⟨rfl, rfl, rfl, rfl, rfl⟩ rfl rfl rfl rfl rfl (by kernel_rfl) Try.func4 (by kernel_rfl)
    (of_decide_eq_true (by kernel_rfl)) (by unfold Func.isWrapper; first | (rw [if_pos (by decide +kernel)]; kernel_rfl) | (rw [if_neg (by decide +kernel)]; exact ⟨rfl, rfl⟩))
    (fun os started H enc _ => leaseEnds_lifted os started H enc)
end Go.Proofs.Ytfgolglgogmniaa
