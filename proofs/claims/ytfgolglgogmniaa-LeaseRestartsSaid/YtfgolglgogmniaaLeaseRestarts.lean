/- LeaseRestarts: the machine's run with any input ends with true. -/
import Derived.Test.YtfgolglgogmniaaHold
import Derived.Test.YtfgolglgogmniaaAw
import Derived.Test.YtfgolglgogmniaaRows
namespace Go.Am
set_option maxRecDepth 100000
theorem restarts_ok (L : Nat) (hL : 1001 ≤ L) (h00 h : H) (vb va : V) (FB FA : List P) (xb xa : List (List V)) (ppm : Int) (aw : call fnt L 19 p8 [] h00 = .ok (.bool true) h) (aw2 : Ens (call fnt L 19 p8 [] h) fun v _ => v = .bool true)
    (B : Ar 1 h vb FB xb) (A : Ar 1 h va FA xa) (eB : ∀ e ∈ xb, ∃ x, e = [.int .u16 x] ∧ 0 ≤ x ∧ x < 65536) (eA : ∀ e ∈ xa, ∃ x, e = [.int .u16 x] ∧ 0 ≤ x ∧ x < 65536) :
    Ens (call fnt L 20 p3 [vb, va, .int .i64 ppm] h00) (fun v _ => v = .bool true) := by
  refine w_fn (af := af3) rfl rfl rfl ?_
  refine w_seq ?_
  refine w_reg ?_
  refine w_mv_bool rfl ?_
  refine w_kp ?_
  refine w_nil ?_
  refine w_seq ?_
  refine w_seq ?_
  refine w_reg ?_
  refine w_call (ens_eq aw ?_)
  refine w_not rfl ?_
  refine w_mv_bool rfl ?_
  refine w_gop rfl (fun _ => ?_) (fun hh => nomatch hh)
  refine w_mv rfl ?_
  refine w_gop rfl (fun _ => ?_) (fun hh => nomatch hh)
  refine w_ar_len B rfl ?_
  refine w_gop rfl (fun _ => ?_) (fun hh => nomatch hh)
  refine w_gt rfl rfl (fun c1 => ?_) (fun c1 => ?_)
  ·
    refine w_pick rfl (fun hh => nomatch hh) (fun _ => ?_)
    refine w_mv_bool rfl ?_
    refine w_mv_bool rfl ?_
    refine w_gop rfl (fun hh => nomatch hh) (fun _ => ?_)
    refine w_gop rfl (fun hh => nomatch hh) (fun _ => ?_)
    refine w_gop rfl (fun hh => nomatch hh) (fun _ => ?_)
    refine w_pick rfl (fun _ => ?_) (fun hh => nomatch hh)
    refine w_mv_bool rfl ?_
    refine w_kp ?_
    refine w_nil ?_
    refine w_cond rfl (fun _ => ?_) (fun hh => nomatch hh)
    refine w_seq ?_
    refine w_reg ?_
    refine w_call (aw2.mono fun v hv2 hv => ?_)
    subst hv
    refine w_mv_bool rfl ?_
    refine w_kp ?_
    refine w_nil ?_
    refine w_ret ?_
    exact ens_eq (v := .bool true) rfl rfl
  ·
    refine w_pick rfl (fun hh => nomatch hh) (fun _ => ?_)
    refine w_mv_bool rfl ?_
    refine w_mv_bool rfl ?_
    refine w_gop rfl (fun _ => ?_) (fun hh => nomatch hh)
    refine w_mv rfl ?_
    refine w_gop rfl (fun _ => ?_) (fun hh => nomatch hh)
    refine w_ar_len A rfl ?_
    refine w_gop rfl (fun _ => ?_) (fun hh => nomatch hh)
    refine w_gt rfl rfl (fun c2 => ?_) (fun c2 => ?_)
    ·
      refine w_pick rfl (fun hh => nomatch hh) (fun _ => ?_)
      refine w_mv_bool rfl ?_
      refine w_kp ?_
      refine w_nil ?_
      refine w_cond rfl (fun _ => ?_) (fun hh => nomatch hh)
      refine w_seq ?_
      refine w_reg ?_
      refine w_call (aw2.mono fun v hv2 hv => ?_)
      subst hv
      refine w_mv_bool rfl ?_
      refine w_kp ?_
      refine w_nil ?_
      refine w_ret ?_
      exact ens_eq (v := .bool true) rfl rfl
    ·
      refine w_pick rfl (fun hh => nomatch hh) (fun _ => ?_)
      refine w_mv_bool rfl ?_
      refine w_kp ?_
      refine w_nil ?_
      refine w_cond rfl (fun hh => nomatch hh) (fun _ => ?_)
      refine w_skip ?_
      refine w_seq ?_
      refine w_reg ?_
      refine w_mv_int rfl ?_
      refine w_call (newHolder_ok _ _ _ _ (fun n1 h1 hb_n1 kp1 nn1 hn1 => ?_))
      have nf_n1_B := B.new nn1
      have nf_n1_A := A.new nn1
      have B := B.keep kp1 nF0
      have A := A.keep kp1 nF0
      have S1 := Sl.nilsl 1 h1
      have Z1 : Sl 2 h1 .nilsl [] (([] : List (Int × Int)).map le) := Sl.nilsl 2 h1
      have lt_n1 : n1.num < h1.next.num := by omega
      have nf_n1_S1 : n1 ∉ ([] : List P) := ni0
      -- dj
      -- dj
      have nf_n1_Z1 : n1 ∉ ([] : List P) := ni0
      -- dj
      -- dj
      -- dj
      refine w_mv_ptr rfl ?_
      refine w_kp ?_
      refine w_nil ?_
      refine w_seq ?_
      refine w_reg ?_
      refine w_mv_int rfl ?_
      refine w_kp ?_
      refine w_nil ?_
      refine w_seq ?_
      refine w_reg ?_
      refine w_mv_nilsl rfl ?_
      refine w_kp ?_
      refine w_nil ?_
      refine w_seq ?_
      refine w_seq ?_
      refine w_reg ?_
      refine w_mv_int rfl ?_
      refine w_kp ?_
      refine w_nil ?_
      refine w_block ?_
      have G := Sl.nilsl 3 h1
      have nf_n1_G : n1 ∉ ([] : List P) := ni0
      have dj_S1_G : ∀ x ∈ _, x ∉ ([] : List P) := nF0 (F := [])
      have dj_B_G : ∀ x ∈ _, x ∉ ([] : List P) := nF0 (F := FB)
      have dj_A_G : ∀ x ∈ _, x ∉ ([] : List P) := nF0 (F := FA)
      have dj_G_S1 : ∀ x ∈ _, x ∉ ([] : List P) := nF0 (F := [])
      have dj_B_S1 : ∀ x ∈ _, x ∉ ([] : List P) := nF0 (F := FB)
      have dj_A_S1 : ∀ x ∈ _, x ∉ ([] : List P) := nF0 (F := FA)
      refine w_loop (fun kk fr hh => ∃ (g11 : Option V) (g33 : Option V) (g13 : Option V) (g61 : Option V) (g48 : Option V) (g12 : Option V) (g92 : Option V) (g6 : Option V) (g26 : Option V) (g14 : Option V) (g78 : Option V) (i : Int) (now : Int) (t : Int) (gr : Int) (vs : V) (FS : List P) (xs : List (List V)) (vg : V) (FG : List P) (xg : List (List V)), fr = (.node (.node (.node (.node .nil (some (.ptr n1 0)) .nil) none (.node .nil g11 .nil)) (some (va)) (.node (.node (.node (.node .nil g33 .nil) none .nil) (some (vg)) .nil) none (.node .nil g13 (.node .nil none (.node .nil g61 .nil))))) (some (vb)) (.node (.node (.node (.node .nil none (.node .nil g48 .nil)) (some (.int .i64 now)) .nil) none (.node .nil g12 (.node .nil none (.node (.node .nil g92 .nil) none .nil)))) (some (.int .i64 ppm)) (.node (.node .nil (some (.int .i64 i)) (.node .nil g26 .nil)) g6 (.node .nil g14 (.node (.node (.node .nil g78 .nil) none .nil) none .nil))))) ∧ (0 ≤ i) ∧ (i + (kk : Int) = xb.length) ∧ (0 ≤ now) ∧ (now ≤ 50 * i) ∧ (0 ≤ t) ∧ (t ≤ now) ∧ (∀ e ∈ xg, ∃ y, e = [.int .i64 y, .int .i64 0, .int .i64 1048576] ∧ y ≤ now + 1) ∧ (xg.length ≤ i) ∧ (xs.length ≤ 16) ∧ (hh.get n1 = some (.cells [.int .i64 ppm, .int .i64 t, .int .i64 gr, vs, .nilsl] false)) ∧ (n1.num < hh.next.num) ∧ (Sl 1 hh vs FS xs) ∧ (Sl 3 hh vg FG xg) ∧ (Ar 1 hh vb FB xb) ∧ (Ar 1 hh va FA xa) ∧ (n1 ∉ FS) ∧ (n1 ∉ FG) ∧ (n1 ∉ FB) ∧ (n1 ∉ FA) ∧ (∀ x ∈ FS, x ∉ FG) ∧ (∀ x ∈ FG, x ∉ FS) ∧ (∀ x ∈ FB, x ∉ FS) ∧ (∀ x ∈ FB, x ∉ FG) ∧ (∀ x ∈ FA, x ∉ FS) ∧ (∀ x ∈ FA, x ∉ FG)) (k := xb.length) (by omega) ⟨_, _, _, _, _, _, _, _, _, _, _, 0, 0, _, _, _, _, _, _, _, _, rfl, by omega, by omega, by omega, by omega, by omega, by omega, by simp, by simp, by simp, hb_n1, lt_n1, S1, G, B, A, nf_n1_S1, nf_n1_G, nf_n1_B, nf_n1_A, dj_S1_G, dj_G_S1, dj_B_S1, dj_B_G, dj_A_S1, dj_A_G⟩ ?_
      rintro kk fr hh ⟨g11, g33, g13, g61, g48, g12, g92, g6, g26, g14, g78, i, now, t, gr, vs, FS, xs, vg, FG, xg, rfl, hi, hk, hnow, hnow2, ht, ht2, hg, hgl, hxs, hb_n1, lt_n1, S, G, B, A, nf_n1_S, nf_n1_G, nf_n1_B, nf_n1_A, dj_S_G, dj_G_S, dj_B_S, dj_B_G, dj_A_S, dj_A_G⟩
      refine w_seq ?_
      refine w_seq ?_
      refine w_reg ?_
      refine w_mv_int rfl ?_
      refine w_mv rfl ?_
      refine w_ar_len B rfl ?_
      refine w_lt rfl rfl (fun c3 => ?_) (fun c3 => ?_)
      ·
        refine w_kp ?_
        refine w_nil ?_
        refine w_cond rfl (fun _ => ?_) (fun hh => nomatch hh)
        refine w_skip ?_
        refine w_seq ?_
        refine w_block ?_
        refine w_seq ?_
        refine w_reg ?_
        refine w_mv_int rfl ?_
        refine w_mv rfl ?_
        refine w_mv_int rfl ?_
        refine w_ar_ix B rfl rfl (by omega) (by omega) (fun s2 o2 cs2 e2 ro2 hs2 he2 ht2 hf2 => ?_)
        obtain ⟨x2, rfl, hx2a, hx2b⟩ := eB _ (List.mem_of_getElem? he2)
        refine w_ld rfl hs2 (takeN_nth (j := 0) ht2 rfl) ?_
        refine w_remp rfl rfl (by omega) (by omega) ?_
        refine w_i2i rfl (wr64 (by omega) (by omega)) ?_
        refine w_add rfl rfl (wr64 (by omega) (by omega)) ?_
        refine w_mv_int rfl ?_
        refine w_kp ?_
        refine w_nil ?_
        refine w_seq ?_
        refine w_reg ?_
        refine w_mv_ptr rfl ?_
        refine w_mv_int rfl ?_
        refine w_call (ask_ok _ _ _ n1 _ _ _ _ _ _ _ _ hb_n1 S nf_n1_S lt_n1 (by omega) (by omega) (by omega) (fun h3 hc3 hq Sq kp3 => ?_) (fun h3 vs3 F3 xs3 hc3 hq kp3 Sq hx3 hf3 => ?_))
        ·
          have G := G.keep kp3 (nF1 nf_n1_G)
          have B := B.keep kp3 (nF1 nf_n1_B)
          have A := A.keep kp3 (nF1 nf_n1_A)
          have lt_n1 := kp3.lt lt_n1
          have hb_n1 := hq
          have S := Sq
          have hr : rd (now + x2 % 50) t = now + x2 % 50 := by unfold rd; omega
          refine w_mv_int rfl ?_
          refine w_kp ?_
          refine w_nil ?_
          refine w_seq ?_
          refine w_reg ?_
          refine w_mv_int rfl ?_
          refine w_gt rfl rfl (fun c4 => by omega) (fun c4 => ?_)
          refine w_kp ?_
          refine w_nil ?_
          refine w_cond rfl (fun hh => nomatch hh) (fun _ => ?_)
          refine w_skip ?_
          refine w_reg ?_
          refine w_mv_int rfl ?_
          refine w_add rfl rfl (wr64 (by omega) (by omega)) ?_
          refine w_mv_int rfl ?_
          refine w_kp ?_
          refine w_nil ?_
          exact ⟨kk - 1, by omega, _, _, _, _, _, _, _, _, _, _, _, i + 1, _, _, _, _, _, _, _, _, _, rfl, by omega, by omega, by omega, by omega, by omega, by omega, fun e he => let ⟨y, hy, hz⟩ := hg e he; ⟨y, hy, by omega⟩, by omega, by omega, hb_n1, lt_n1, S, G, B, A, nf_n1_S, nf_n1_G, nf_n1_B, nf_n1_A, dj_S_G, dj_G_S, dj_B_S, dj_B_G, dj_A_S, dj_A_G⟩
        ·
          have nf_n1_S3 := fresh_nf hf3 lt_n1
          have dj_G_S3 := fresh_dj G.lt hf3
          have dj_S3_G := dj_symm dj_G_S3
          have dj_B_S3 := fresh_dj B.lt hf3
          have dj_S3_B := dj_symm dj_B_S3
          have dj_A_S3 := fresh_dj A.lt hf3
          have dj_S3_A := dj_symm dj_A_S3
          have G := G.keep kp3 (nFC nf_n1_G dj_G_S)
          have B := B.keep kp3 (nFC nf_n1_B dj_B_S)
          have A := A.keep kp3 (nFC nf_n1_A dj_A_S)
          have lt_n1 := kp3.lt lt_n1
          have hb_n1 := hq
          have S3 := Sq
          have hr : rd (now + x2 % 50) t = now + x2 % 50 := by unfold rd; omega
          refine w_mv_int rfl ?_
          refine w_kp ?_
          refine w_nil ?_
          refine w_seq ?_
          refine w_reg ?_
          refine w_mv_int rfl ?_
          refine w_gt rfl rfl (fun c5 => ?_) (fun c5 => by omega)
          refine w_kp ?_
          refine w_nil ?_
          refine w_cond rfl (fun _ => ?_) (fun hh => nomatch hh)
          refine w_reg ?_
          refine w_mv rfl ?_
          refine w_mv_int rfl ?_
          refine w_eq (v := .agg [.int .i64 _, .int .i64 0, .int .i64 1048576]) rfl ?_
          refine m_one_agg rfl rfl rfl (fun t4 h4 hb_t4 kp4 nn4 hn4 => ?_)
          have nf_t4_G := G.new nn4
          have nf_t4_B := B.new nn4
          have nf_t4_A := A.new nn4
          have nf_t4_S3 := S3.new nn4
          have hb_n1 := kp4.get hb_n1 lt_n1 ni0
          have G := G.keep kp4 nF0
          have B := B.keep kp4 nF0
          have A := A.keep kp4 nF0
          have S3 := S3.keep kp4 nF0
          have lt_n1 := kp4.lt lt_n1
          refine m_app G hb_t4 rfl (by decide) (by omega) rfl rfl (fun v5 h5 m5 S5 kp5 nn5 hn5 => ?_)
          have nf_n1_S5 : n1 ∉ [m5] := ni1 (by omega)
          have dj_B_S5 := nF1 (B.new nn5)
          have dj_S5_B := dj_symm dj_B_S5
          have dj_A_S5 := nF1 (A.new nn5)
          have dj_S5_A := dj_symm dj_A_S5
          have dj_S3_S5 := nF1 (S3.new nn5)
          have dj_S5_S3 := dj_symm dj_S3_S5
          have hb_n1 := kp5.get hb_n1 lt_n1 nf_n1_G
          have B := B.keep kp5 dj_B_G
          have A := A.keep kp5 dj_A_G
          have S3 := S3.keep kp5 dj_S3_G
          have lt_n1 := kp5.lt lt_n1
          refine w_mv rfl ?_
          refine w_kp ?_
          refine w_nil ?_
          refine w_reg ?_
          refine w_mv_int rfl ?_
          refine w_add rfl rfl (wr64 (by omega) (by omega)) ?_
          refine w_mv_int rfl ?_
          refine w_kp ?_
          refine w_nil ?_
          exact ⟨kk - 1, by omega, _, _, _, _, _, _, _, _, _, _, _, i + 1, _, _, _, _, _, _, _, _, _, rfl, by omega, by omega, by omega, by omega, by omega, by omega, fun e he => (List.mem_append.1 he).elim (fun he => let ⟨y, hy, hz⟩ := hg e he; ⟨y, hy, by omega⟩) (fun he => ⟨_, List.mem_singleton.1 he, by omega⟩), by rw [List.length_append]; simp; omega, by rw [hx3, List.length_drop]; simp; split <;> omega, hb_n1, lt_n1, S3, S5, B, A, nf_n1_S3, nf_n1_S5, nf_n1_B, nf_n1_A, dj_S3_S5, dj_S5_S3, dj_B_S3, dj_B_S5, dj_A_S3, dj_A_S5⟩
      ·
        refine w_kp ?_
        refine w_nil ?_
        refine w_cond rfl (fun hh => nomatch hh) (fun _ => ?_)
        refine w_exit ?_
        refine w_seq ?_
        refine w_reg ?_
        refine w_mv_int rfl ?_
        refine w_add rfl rfl (wr64 (by omega) (by omega)) ?_
        refine w_mv_int rfl ?_
        refine w_kp ?_
        refine w_nil ?_
        refine w_seq ?_
        refine w_reg ?_
        refine w_mv_int rfl ?_
        refine w_call (newHolder_ok _ _ _ _ (fun n2 h2 hb_n2 kp2 nn2 hn2 => ?_))
        have nf_n2_S := S.new nn2
        have nf_n2_G := G.new nn2
        have nf_n2_B := B.new nn2
        have nf_n2_A := A.new nn2
        have hb_n1 := kp2.get hb_n1 lt_n1 ni0
        have S := S.keep kp2 nF0
        have G := G.keep kp2 nF0
        have B := B.keep kp2 nF0
        have A := A.keep kp2 nF0
        have lt_n1 := kp2.lt lt_n1
        have S2 := Sl.nilsl 1 h2
        have Z2 : Sl 2 h2 .nilsl [] (([] : List (Int × Int)).map le) := Sl.nilsl 2 h2
        have lt_n2 : n2.num < h2.next.num := by omega
        have nf_n1_S2 : n1 ∉ ([] : List P) := ni0
        have nf_n2_S2 : n2 ∉ ([] : List P) := ni0
        -- dj
        -- dj
        -- dj
        -- dj
        have nf_n1_Z2 : n1 ∉ ([] : List P) := ni0
        have nf_n2_Z2 : n2 ∉ ([] : List P) := ni0
        -- dj
        -- dj
        -- dj
        -- dj
        -- dj
        refine w_mv_ptr rfl ?_
        refine w_kp ?_
        refine w_nil ?_
        refine w_seq ?_
        refine w_seq ?_
        refine w_reg ?_
        refine w_mv_int rfl ?_
        refine w_kp ?_
        refine w_nil ?_
        refine w_block ?_
        have dj_Z2_S2 : ∀ x ∈ [], x ∉ ([] : List P) := nF0
        have dj_G_S2 : ∀ x ∈ FG, x ∉ ([] : List P) := nF0
        have dj_A_S2 : ∀ x ∈ FA, x ∉ ([] : List P) := nF0
        have dj_S2_Z2 : ∀ x ∈ [], x ∉ ([] : List P) := nF0
        have dj_G_Z2 : ∀ x ∈ FG, x ∉ ([] : List P) := nF0
        have dj_A_Z2 : ∀ x ∈ FA, x ∉ ([] : List P) := nF0
        have dj_S2_G : ∀ x ∈ ([] : List P), x ∉ FG := fun x hx => nomatch hx
        have dj_Z2_G : ∀ x ∈ ([] : List P), x ∉ FG := fun x hx => nomatch hx
        refine w_loop (fun kk fr hh => ∃ (g0 : Option V) (g7 : Option V) (g11 : Option V) (g33 : Option V) (g61 : Option V) (g48 : Option V) (g92 : Option V) (g6 : Option V) (g10 : Option V) (g26 : Option V) (g14 : Option V) (g78 : Option V) (i2 : Int) (nw2 : Int) (t2 : Int) (gr2 : Int) (vs2 : V) (FU : List P) (xu : List (List V)), fr = (.node (.node (.node (.node .nil g7 .nil) none (.node .nil g11 .nil)) (some (va)) (.node (.node (.node (.node .nil g33 .nil) none .nil) (some (vg)) .nil) none (.node .nil (some (.int .i64 i2)) (.node .nil none (.node .nil g61 .nil))))) g0 (.node (.node (.node (.node .nil none (.node .nil g48 .nil)) (some (.int .i64 nw2)) .nil) none (.node .nil (some (.ptr n2 0)) (.node .nil none (.node (.node .nil g92 .nil) none .nil)))) (some (.int .i64 ppm)) (.node (.node .nil g10 (.node .nil g26 .nil)) g6 (.node .nil g14 (.node (.node (.node .nil g78 .nil) none .nil) none .nil))))) ∧ (0 ≤ i2) ∧ (i2 + (kk : Int) = xa.length) ∧ (now + 1 ≤ nw2) ∧ (nw2 ≤ now + 1 + 50 * i2) ∧ (0 ≤ t2) ∧ (t2 ≤ nw2) ∧ (∀ e ∈ xu, ∃ y, e = [.int .i64 y] ∧ now + 1 < y) ∧ (xu.length ≤ 16) ∧ (hh.get n2 = some (.cells [.int .i64 ppm, .int .i64 t2, .int .i64 gr2, vs2, .nilsl] false)) ∧ (n2.num < hh.next.num) ∧ (Sl 1 hh vs2 FU xu) ∧ (Sl 2 hh .nilsl [] (([] : List (Int × Int)).map le)) ∧ (Sl 3 hh vg FG xg) ∧ (Ar 1 hh va FA xa) ∧ (n2 ∉ FU) ∧ (n2 ∉ []) ∧ (n2 ∉ FG) ∧ (n2 ∉ FA) ∧ (∀ x ∈ FU, x ∉ []) ∧ (∀ x ∈ FU, x ∉ FG) ∧ (∀ x ∈ [], x ∉ FU) ∧ (∀ x ∈ [], x ∉ FG) ∧ (∀ x ∈ FG, x ∉ FU) ∧ (∀ x ∈ FG, x ∉ []) ∧ (∀ x ∈ FA, x ∉ FU) ∧ (∀ x ∈ FA, x ∉ []) ∧ (∀ x ∈ FA, x ∉ FG)) (k := xa.length) (by omega) ⟨_, _, _, _, _, _, _, _, _, _, _, _, 0, now + 1, 0, 0, _, _, _, rfl, by omega, by omega, by omega, by omega, by omega, by omega, by simp, by simp, hb_n2, lt_n2, S2, Z2, G, A, nf_n2_S2, nf_n2_Z2, nf_n2_G, nf_n2_A, dj_S2_Z2, dj_S2_G, dj_Z2_S2, dj_Z2_G, dj_G_S2, dj_G_Z2, dj_A_S2, dj_A_Z2, dj_A_G⟩ ?_
        rintro kk fr hh ⟨g0, g7, g11, g33, g61, g48, g92, g6, g10, g26, g14, g78, i2, nw2, t2, gr2, vs2, FU, xu, rfl, hi2, hk2, hnwa, hnwb, ht3, ht4, hxu, hlu, hb_n2, lt_n2, U, Z2, G, A, nf_n2_U, nf_n2_Z2, nf_n2_G, nf_n2_A, dj_U_Z2, dj_U_G, dj_Z2_U, dj_Z2_G, dj_G_U, dj_G_Z2, dj_A_U, dj_A_Z2, dj_A_G⟩
        refine w_seq ?_
        refine w_seq ?_
        refine w_reg ?_
        refine w_mv_int rfl ?_
        refine w_mv rfl ?_
        refine w_ar_len A rfl ?_
        refine w_lt rfl rfl (fun c6 => ?_) (fun c6 => ?_)
        ·
          refine w_kp ?_
          refine w_nil ?_
          refine w_cond rfl (fun _ => ?_) (fun hh => nomatch hh)
          refine w_skip ?_
          refine w_seq ?_
          refine w_block ?_
          refine w_seq ?_
          refine w_reg ?_
          refine w_mv_int rfl ?_
          refine w_mv rfl ?_
          refine w_mv_int rfl ?_
          refine w_ar_ix A rfl rfl (by omega) (by omega) (fun s3 o3 cs3 e3 ro3 hs3 he3 ht3 hf3 => ?_)
          obtain ⟨x3, rfl, hx3a, hx3b⟩ := eA _ (List.mem_of_getElem? he3)
          refine w_ld rfl hs3 (takeN_nth (j := 0) ht3 rfl) ?_
          refine w_remp rfl rfl (by omega) (by omega) ?_
          refine w_i2i rfl (wr64 (by omega) (by omega)) ?_
          refine w_add rfl rfl (wr64 (by omega) (by omega)) ?_
          refine w_mv_int rfl ?_
          refine w_kp ?_
          refine w_nil ?_
          refine w_seq ?_
          refine w_reg ?_
          refine w_mv_ptr rfl ?_
          refine w_mv_int rfl ?_
          refine w_call (ask_ok _ _ _ n2 _ _ _ _ _ _ _ _ hb_n2 U nf_n2_U lt_n2 (by omega) (by omega) (by omega) (fun h4 hc4 hq Sq kp4 => ?_) (fun h4 vs4 F4 xs4 hc4 hq kp4 Sq hx4 hf4 => ?_))
          ·
            have Z2 := Z2.keep kp4 (nF1 nf_n2_Z2)
            have G := G.keep kp4 (nF1 nf_n2_G)
            have A := A.keep kp4 (nF1 nf_n2_A)
            have lt_n2 := kp4.lt lt_n2
            have hb_n2 := hq
            have U := Sq
            have hr : rd (nw2 + x3 % 50) t2 = (nw2 + x3 % 50) := by unfold rd; omega
            refine w_nil ?_
            refine w_seq ?_
            refine w_reg ?_
            refine w_mv_int rfl ?_
            refine w_kp ?_
            refine w_nil ?_
            refine w_block ?_
            obtain ⟨kk0, hkk0⟩ : ∃ q, q = kk := ⟨kk, rfl⟩
            refine w_loop (fun kk fr hh => ∃ (g0 : Option V) (g7 : Option V) (g11 : Option V) (g33 : Option V) (g61 : Option V) (g48 : Option V) (g92 : Option V) (g6 : Option V) (g10 : Option V) (g26 : Option V) (g78 : Option V) (j : Int) (t5 : Int), fr = (.node (.node (.node (.node .nil g7 .nil) none (.node .nil g11 .nil)) (some (va)) (.node (.node (.node (.node .nil g33 .nil) none .nil) (some (vg)) .nil) none (.node .nil (some (.int .i64 i2)) (.node .nil none (.node .nil g61 .nil))))) g0 (.node (.node (.node (.node .nil none (.node .nil g48 .nil)) (some (.int .i64 (nw2 + x3 % 50))) .nil) none (.node .nil (some (.ptr n2 0)) (.node .nil none (.node (.node .nil g92 .nil) none .nil)))) (some (.int .i64 ppm)) (.node (.node .nil g10 (.node .nil g26 .nil)) g6 (.node .nil (some (.int .i64 j)) (.node (.node (.node .nil g78 .nil) none .nil) none .nil))))) ∧ (0 ≤ j) ∧ (j + (kk : Int) = xg.length) ∧ (0 ≤ t5) ∧ (t5 ≤ (nw2 + x3 % 50)) ∧ (hh.get n2 = some (.cells [.int .i64 ppm, .int .i64 t5, .int .i64 gr2, vs2, .nilsl] false)) ∧ (n2.num < hh.next.num) ∧ (Sl 1 hh vs2 FU xu) ∧ (Sl 2 hh .nilsl [] (([] : List (Int × Int)).map le)) ∧ (Sl 3 hh vg FG xg) ∧ (Ar 1 hh va FA xa) ∧ (n2 ∉ FU) ∧ (n2 ∉ []) ∧ (n2 ∉ FG) ∧ (n2 ∉ FA) ∧ (∀ x ∈ FU, x ∉ []) ∧ (∀ x ∈ FU, x ∉ FG) ∧ (∀ x ∈ [], x ∉ FU) ∧ (∀ x ∈ [], x ∉ FG) ∧ (∀ x ∈ FG, x ∉ FU) ∧ (∀ x ∈ FG, x ∉ []) ∧ (∀ x ∈ FA, x ∉ FU) ∧ (∀ x ∈ FA, x ∉ []) ∧ (∀ x ∈ FA, x ∉ FG)) (k := xg.length) (by omega) ⟨_, _, _, _, _, _, _, _, _, _, _, 0, _, rfl, by omega, by omega, by omega, by omega, hb_n2, lt_n2, U, Z2, G, A, nf_n2_U, nf_n2_Z2, nf_n2_G, nf_n2_A, dj_U_Z2, dj_U_G, dj_Z2_U, dj_Z2_G, dj_G_U, dj_G_Z2, dj_A_U, dj_A_Z2, dj_A_G⟩ ?_
            rintro kk fr hh ⟨g0, g7, g11, g33, g61, g48, g92, g6, g10, g26, g78, j, t5, rfl, hj, hkj, ht5, ht6, hb_n2, lt_n2, U, Z2, G, A, nf_n2_U, nf_n2_Z2, nf_n2_G, nf_n2_A, dj_U_Z2, dj_U_G, dj_Z2_U, dj_Z2_G, dj_G_U, dj_G_Z2, dj_A_U, dj_A_Z2, dj_A_G⟩
            refine w_seq ?_
            refine w_seq ?_
            refine w_reg ?_
            refine w_mv_int rfl ?_
            refine w_mv rfl ?_
            refine w_sl_len G rfl ?_
            refine w_lt rfl rfl (fun c7 => ?_) (fun c7 => ?_)
            ·
              refine w_kp ?_
              refine w_nil ?_
              refine w_cond rfl (fun _ => ?_) (fun hh => nomatch hh)
              refine w_skip ?_
              refine w_seq ?_
              refine w_block ?_
              refine w_seq ?_
              refine w_reg ?_
              refine w_mv_ptr rfl ?_
              refine w_mv rfl ?_
              refine w_mv_int rfl ?_
              refine w_sl_ix G rfl rfl (by omega) (by omega) (fun s5 o5 cs5 e5 hs5 he5 ht5 hf5 => ?_)
              obtain ⟨y5, rfl, hy5⟩ := hg _ (List.mem_of_getElem? he5)
              refine w_ldn rfl hs5 ht5 ?_
              refine w_mv_int rfl ?_
              refine w_call (take_unknown _ _ _ n2 _ _ _ _ _ _ _ _ _ _ _ hb_n2 U nf_n2_U lt_n2 (by omega) (by omega) (fun e he => let ⟨y, hy, hz⟩ := hxu e he; ⟨y, hy, by omega⟩) (fun h6 hq Sq kp6 => ?_))
              have Z2 := Z2.keep kp6 (nF1 nf_n2_Z2)
              have G := G.keep kp6 (nF1 nf_n2_G)
              have A := A.keep kp6 (nF1 nf_n2_A)
              have lt_n2 := kp6.lt lt_n2
              have hb_n2 := hq
              have U := Sq
              have hr6 : rd (nw2 + x3 % 50) t5 = (nw2 + x3 % 50) := by unfold rd; omega
              refine w_mv_bool rfl ?_
              refine w_gop rfl (fun _ => ?_) (fun hh => nomatch hh)
              refine w_mv_ptr rfl ?_
              refine w_gop rfl (fun _ => ?_) (fun hh => nomatch hh)
              refine w_mv_int rfl ?_
              refine w_gcall rfl (fun _ => ?_) (fun hh => nomatch hh)
              refine w_call (holds_ok _ _ _ n2 _ _ _ _ _ _ _ _ _ hb_n2 Z2 nf_n2_Z2 lt_n2 (by simp) (by omega) (fun h7 t7 ht7 hq Sq kp7 => ?_))
              have U := U.keep kp7 (nF1 nf_n2_U)
              have G := G.keep kp7 (nF1 nf_n2_G)
              have A := A.keep kp7 (nF1 nf_n2_A)
              have lt_n2 := kp7.lt lt_n2
              have hb_n2 := hq
              have Z2 := Sq
              obtain rfl : t7 = false := by rw [ht7]; simp [untilF]
              have hr7 : rd (nw2 + x3 % 50) (rd (nw2 + x3 % 50) t5) = (nw2 + x3 % 50) := by rw [hr6]; unfold rd; omega
              refine w_pick rfl (fun hh => nomatch hh) (fun _ => ?_)
              refine w_mv_bool rfl ?_
              refine w_kp ?_
              refine w_nil ?_
              refine w_cond rfl (fun hh => nomatch hh) (fun _ => ?_)
              refine w_skip ?_
              refine w_reg ?_
              refine w_mv_int rfl ?_
              refine w_add rfl rfl (wr64 (by omega) (by omega)) ?_
              refine w_mv_int rfl ?_
              refine w_kp ?_
              refine w_nil ?_
              exact ⟨kk - 1, by omega, _, _, _, _, _, _, _, _, _, _, _, j + 1, _, rfl, by omega, by omega, by omega, by omega, hb_n2, lt_n2, U, Z2, G, A, nf_n2_U, nf_n2_Z2, nf_n2_G, nf_n2_A, dj_U_Z2, dj_U_G, dj_Z2_U, dj_Z2_G, dj_G_U, dj_G_Z2, dj_A_U, dj_A_Z2, dj_A_G⟩
            ·
              refine w_kp ?_
              refine w_nil ?_
              refine w_cond rfl (fun hh => nomatch hh) (fun _ => ?_)
              refine w_exit ?_
              refine w_reg ?_
              refine w_mv_int rfl ?_
              refine w_add rfl rfl (wr64 (by omega) (by omega)) ?_
              refine w_mv_int rfl ?_
              refine w_kp ?_
              refine w_nil ?_
              exact ⟨kk0 - 1, by omega, _, _, _, _, _, _, _, _, _, _, _, _, i2 + 1, _, _, _, _, _, _, rfl, by omega, by omega, by omega, by omega, by omega, by omega, hxu, hlu, hb_n2, lt_n2, U, Z2, G, A, nf_n2_U, nf_n2_Z2, nf_n2_G, nf_n2_A, dj_U_Z2, dj_U_G, dj_Z2_U, dj_Z2_G, dj_G_U, dj_G_Z2, dj_A_U, dj_A_Z2, dj_A_G⟩
          ·
            have nf_n2_S4 := fresh_nf hf4 lt_n2
            have dj_Z2_S4 := fresh_dj Z2.lt hf4
            have dj_S4_Z2 := dj_symm dj_Z2_S4
            have dj_G_S4 := fresh_dj G.lt hf4
            have dj_S4_G := dj_symm dj_G_S4
            have dj_A_S4 := fresh_dj A.lt hf4
            have dj_S4_A := dj_symm dj_A_S4
            have Z2 := Z2.keep kp4 (nFC nf_n2_Z2 dj_Z2_U)
            have G := G.keep kp4 (nFC nf_n2_G dj_G_U)
            have A := A.keep kp4 (nFC nf_n2_A dj_A_U)
            have lt_n2 := kp4.lt lt_n2
            have hb_n2 := hq
            have S4 := Sq
            have hr : rd (nw2 + x3 % 50) t2 = (nw2 + x3 % 50) := by unfold rd; omega
            have hxu : ∀ e ∈ xs4, ∃ y, e = [.int .i64 y] ∧ now + 1 < y := fun e he => (List.mem_append.1 (List.mem_of_mem_drop (hx4 ▸ he))).elim (hxu e) (fun he => ⟨_, List.mem_singleton.1 he, by omega⟩)
            have hlu : xs4.length ≤ 16 := by rw [hx4, List.length_drop]; simp; split <;> omega
            refine w_nil ?_
            refine w_seq ?_
            refine w_reg ?_
            refine w_mv_int rfl ?_
            refine w_kp ?_
            refine w_nil ?_
            refine w_block ?_
            obtain ⟨kk0, hkk0⟩ : ∃ q, q = kk := ⟨kk, rfl⟩
            refine w_loop (fun kk fr hh => ∃ (g0 : Option V) (g7 : Option V) (g11 : Option V) (g33 : Option V) (g61 : Option V) (g48 : Option V) (g92 : Option V) (g6 : Option V) (g10 : Option V) (g26 : Option V) (g78 : Option V) (j : Int) (t5 : Int), fr = (.node (.node (.node (.node .nil g7 .nil) none (.node .nil g11 .nil)) (some (va)) (.node (.node (.node (.node .nil g33 .nil) none .nil) (some (vg)) .nil) none (.node .nil (some (.int .i64 i2)) (.node .nil none (.node .nil g61 .nil))))) g0 (.node (.node (.node (.node .nil none (.node .nil g48 .nil)) (some (.int .i64 (nw2 + x3 % 50))) .nil) none (.node .nil (some (.ptr n2 0)) (.node .nil none (.node (.node .nil g92 .nil) none .nil)))) (some (.int .i64 ppm)) (.node (.node .nil g10 (.node .nil g26 .nil)) g6 (.node .nil (some (.int .i64 j)) (.node (.node (.node .nil g78 .nil) none .nil) none .nil))))) ∧ (0 ≤ j) ∧ (j + (kk : Int) = xg.length) ∧ (0 ≤ t5) ∧ (t5 ≤ (nw2 + x3 % 50)) ∧ (hh.get n2 = some (.cells [.int .i64 ppm, .int .i64 t5, .int .i64 (rd (nw2 + x3 % 50) t2 + 1), vs4, .nilsl] false)) ∧ (n2.num < hh.next.num) ∧ (Sl 1 hh vs4 F4 xs4) ∧ (Sl 2 hh .nilsl [] (([] : List (Int × Int)).map le)) ∧ (Sl 3 hh vg FG xg) ∧ (Ar 1 hh va FA xa) ∧ (n2 ∉ F4) ∧ (n2 ∉ []) ∧ (n2 ∉ FG) ∧ (n2 ∉ FA) ∧ (∀ x ∈ F4, x ∉ []) ∧ (∀ x ∈ F4, x ∉ FG) ∧ (∀ x ∈ [], x ∉ F4) ∧ (∀ x ∈ [], x ∉ FG) ∧ (∀ x ∈ FG, x ∉ F4) ∧ (∀ x ∈ FG, x ∉ []) ∧ (∀ x ∈ FA, x ∉ F4) ∧ (∀ x ∈ FA, x ∉ []) ∧ (∀ x ∈ FA, x ∉ FG)) (k := xg.length) (by omega) ⟨_, _, _, _, _, _, _, _, _, _, _, 0, _, rfl, by omega, by omega, by omega, by omega, hb_n2, lt_n2, S4, Z2, G, A, nf_n2_S4, nf_n2_Z2, nf_n2_G, nf_n2_A, dj_S4_Z2, dj_S4_G, dj_Z2_S4, dj_Z2_G, dj_G_S4, dj_G_Z2, dj_A_S4, dj_A_Z2, dj_A_G⟩ ?_
            rintro kk fr hh ⟨g0, g7, g11, g33, g61, g48, g92, g6, g10, g26, g78, j, t5, rfl, hj, hkj, ht5, ht6, hb_n2, lt_n2, S4, Z2, G, A, nf_n2_S4, nf_n2_Z2, nf_n2_G, nf_n2_A, dj_S4_Z2, dj_S4_G, dj_Z2_S4, dj_Z2_G, dj_G_S4, dj_G_Z2, dj_A_S4, dj_A_Z2, dj_A_G⟩
            refine w_seq ?_
            refine w_seq ?_
            refine w_reg ?_
            refine w_mv_int rfl ?_
            refine w_mv rfl ?_
            refine w_sl_len G rfl ?_
            refine w_lt rfl rfl (fun c8 => ?_) (fun c8 => ?_)
            ·
              refine w_kp ?_
              refine w_nil ?_
              refine w_cond rfl (fun _ => ?_) (fun hh => nomatch hh)
              refine w_skip ?_
              refine w_seq ?_
              refine w_block ?_
              refine w_seq ?_
              refine w_reg ?_
              refine w_mv_ptr rfl ?_
              refine w_mv rfl ?_
              refine w_mv_int rfl ?_
              refine w_sl_ix G rfl rfl (by omega) (by omega) (fun s5 o5 cs5 e5 hs5 he5 ht5 hf5 => ?_)
              obtain ⟨y5, rfl, hy5⟩ := hg _ (List.mem_of_getElem? he5)
              refine w_ldn rfl hs5 ht5 ?_
              refine w_mv_int rfl ?_
              refine w_call (take_unknown _ _ _ n2 _ _ _ _ _ _ _ _ _ _ _ hb_n2 S4 nf_n2_S4 lt_n2 (by omega) (by omega) (fun e he => let ⟨y, hy, hz⟩ := hxu e he; ⟨y, hy, by omega⟩) (fun h6 hq Sq kp6 => ?_))
              have Z2 := Z2.keep kp6 (nF1 nf_n2_Z2)
              have G := G.keep kp6 (nF1 nf_n2_G)
              have A := A.keep kp6 (nF1 nf_n2_A)
              have lt_n2 := kp6.lt lt_n2
              have hb_n2 := hq
              have S4 := Sq
              have hr6 : rd (nw2 + x3 % 50) t5 = (nw2 + x3 % 50) := by unfold rd; omega
              refine w_mv_bool rfl ?_
              refine w_gop rfl (fun _ => ?_) (fun hh => nomatch hh)
              refine w_mv_ptr rfl ?_
              refine w_gop rfl (fun _ => ?_) (fun hh => nomatch hh)
              refine w_mv_int rfl ?_
              refine w_gcall rfl (fun _ => ?_) (fun hh => nomatch hh)
              refine w_call (holds_ok _ _ _ n2 _ _ _ _ _ _ _ _ _ hb_n2 Z2 nf_n2_Z2 lt_n2 (by simp) (by omega) (fun h7 t7 ht7 hq Sq kp7 => ?_))
              have S4 := S4.keep kp7 (nF1 nf_n2_S4)
              have G := G.keep kp7 (nF1 nf_n2_G)
              have A := A.keep kp7 (nF1 nf_n2_A)
              have lt_n2 := kp7.lt lt_n2
              have hb_n2 := hq
              have Z2 := Sq
              obtain rfl : t7 = false := by rw [ht7]; simp [untilF]
              have hr7 : rd (nw2 + x3 % 50) (rd (nw2 + x3 % 50) t5) = (nw2 + x3 % 50) := by rw [hr6]; unfold rd; omega
              refine w_pick rfl (fun hh => nomatch hh) (fun _ => ?_)
              refine w_mv_bool rfl ?_
              refine w_kp ?_
              refine w_nil ?_
              refine w_cond rfl (fun hh => nomatch hh) (fun _ => ?_)
              refine w_skip ?_
              refine w_reg ?_
              refine w_mv_int rfl ?_
              refine w_add rfl rfl (wr64 (by omega) (by omega)) ?_
              refine w_mv_int rfl ?_
              refine w_kp ?_
              refine w_nil ?_
              exact ⟨kk - 1, by omega, _, _, _, _, _, _, _, _, _, _, _, j + 1, _, rfl, by omega, by omega, by omega, by omega, hb_n2, lt_n2, S4, Z2, G, A, nf_n2_S4, nf_n2_Z2, nf_n2_G, nf_n2_A, dj_S4_Z2, dj_S4_G, dj_Z2_S4, dj_Z2_G, dj_G_S4, dj_G_Z2, dj_A_S4, dj_A_Z2, dj_A_G⟩
            ·
              refine w_kp ?_
              refine w_nil ?_
              refine w_cond rfl (fun hh => nomatch hh) (fun _ => ?_)
              refine w_exit ?_
              refine w_reg ?_
              refine w_mv_int rfl ?_
              refine w_add rfl rfl (wr64 (by omega) (by omega)) ?_
              refine w_mv_int rfl ?_
              refine w_kp ?_
              refine w_nil ?_
              exact ⟨kk0 - 1, by omega, _, _, _, _, _, _, _, _, _, _, _, _, i2 + 1, _, _, _, _, _, _, rfl, by omega, by omega, by omega, by omega, by omega, by omega, hxu, hlu, hb_n2, lt_n2, S4, Z2, G, A, nf_n2_S4, nf_n2_Z2, nf_n2_G, nf_n2_A, dj_S4_Z2, dj_S4_G, dj_Z2_S4, dj_Z2_G, dj_G_S4, dj_G_Z2, dj_A_S4, dj_A_Z2, dj_A_G⟩
        ·
          refine w_kp ?_
          refine w_nil ?_
          refine w_cond rfl (fun hh => nomatch hh) (fun _ => ?_)
          refine w_exit ?_
          refine w_seq ?_
          refine w_reg ?_
          refine w_mv_bool rfl ?_
          refine w_kp ?_
          refine w_nil ?_
          refine w_ret ?_
          exact ens_eq (v := .bool true) rfl rfl
end Go.Am
namespace Go.Proofs.Ytfgolglgogmniaa
open Go.ChangeShapes Go.WideShapes Go.ChangeAt Go.RowKit Go.Am

theorem own3 : ownKnob Try.prog.godebug = none := by kernel_rfl
theorem tab3 : tabOk Try.prog = true := by kernel_rfl
theorem ng3 : Try.prog.globals.size = 0 := by kernel_rfl
theorem elem_u16 {xs : List (List V)} (h : ∀ y ∈ xs, Elem [.u16] y) : ∀ e ∈ xs, ∃ x, e = [.int .u16 x] ∧ 0 ≤ x ∧ x < 65536 := by
  intro e he
  obtain ⟨n, y, rfl, hw, hy⟩ := (h e he).cons
  obtain rfl := hy.nil
  exact ⟨n, rfl, wf_u16 hw⟩

set_option maxRecDepth 100000 in
theorem leaseRestarts_lifted (os : Os) (started : os.Started) (H : Type) (enc : TypeId × Value → H) :
    ReturnsInHanded {} Try.checked os 3 .any (Rows.leaseRestartsSpec.pre6 enc Try.prog Try.f3 Rows.leaseRestartsRow.domain false) (Rows.leaseRestartsSpec.post enc Try.prog Try.f3 false true false false) := by
  refine returnsInHanded_of_change (C := Try.checked) own3 started (by kernel_rfl) Try.func3
    (ChangeSpec.witness6 (enc := enc) (C := Try.checked) false ⟨#[], #[.slice none 0 0, .slice none 0 0, .int .i64 0], []⟩ 8 (by kernel_rfl) (by kernel_rfl) (by kernel_rfl) (by kernel_rfl)) ?_
  intro W base args ds gs before hval0 hW hcnd _
  have hval : ∀ (j : Nat) t v, Try.f3.params[j]? = some t → args[j]? = some v → Value.okWide Try.prog W .any base t v := hval0
  have hW' := hW
  obtain ⟨p, q, hA0, hV, rfl, hfz, hnd⟩ := hW
  have hA : DataW.TrodAll enc Try.prog W 0 (fun _ => true) true Try.f3.params.toList args.toList ds p := hA0
  rw [Try.params3] at hA hval
  obtain ⟨v0, vs0, d0, ds0, q0, r0, hargs, rfl, rfl, h0, hA⟩ := trodAll_cons hA
  obtain ⟨v1, vs1, d1, ds1, q1, r1, rfl, rfl, rfl, h1, hA⟩ := trodAll_cons hA
  obtain ⟨v2, vs2, d2, ds2, q2, r2, rfl, rfl, rfl, h2, hA⟩ := trodAll_cons hA
  obtain ⟨rfl, rfl, rfl⟩ := trodAll_nil hA
  obtain rfl : args = #[v0, v1, v2] := by cases args; simp_all
  obtain ⟨l0, o0, f0, x0, a1, a2, a3, a4⟩ := arg_sl (P := Try.prog) (e := 27) (sh := [.u16]) (d := 3) (by kernel_rfl) (by kernel_rfl) (by kernel_rfl) (by decide) (hval 0 22 v0 rfl rfl) h0
  obtain ⟨l1, o1, f1, x1, b1, b2, b3, b4⟩ := arg_sl (P := Try.prog) (e := 27) (sh := [.u16]) (d := 3) (by kernel_rfl) (by kernel_rfl) (by kernel_rfl) (by decide) (hval 1 22 v1 rfl rfl) h1
  obtain ⟨n, rfl, rfl, rfl, wa⟩ := open_int (k := .i64) (t := 3) (by kernel_rfl) (hval 2 3 v2 rfl rfl) h2
  have hcf := cf_ok 100000 20
  rw [ng3] at hcf
  have g : Given 0 [l0, l1] [o0, o1] W := ⟨rfl, fun i l cs e1 e2 => by
    rcases i with _ | _ | i
    · obtain rfl := Option.some.inj e1; exact a2 _ cs (Option.some.inj e2)
    · obtain rfl := Option.some.inj e1; exact b2 _ cs (Option.some.inj e2)
    · simp at e1⟩
  obtain ⟨h, aw⟩ := awake2 o0 o1
  obtain ⟨FB, hB⟩ := a3 h (P.of 0) (aw.get (P.of 0, o0) (by simp)) (aw.lt (P.of 0, o0) (by simp))
  obtain ⟨FA, hA2⟩ := b3 h (P.of 1) (aw.get (P.of 1, o1) (by simp)) (aw.lt (P.of 1, o1) (by simp))
  have run := restarts_ok 100000 (by decide) (H0 0 [o0, o1]) h (f0 (P.of 0)) (f1 (P.of 1)) FB FA x0 x1 n aw.run aw.run2 hB hA2 (elem_u16 a4) (elem_u16 b4)
  refine (law_calls (p := p3) hcf Try.func3 (by kernel_rfl) (of_decide_eq_true (by kernel_rfl)) g ?_ (AllTrue.of_ens run)).mono fun e W' ⟨he, ho⟩ => ?_
  · exact VRs.cons (a1 _ _ (io0_at 0 [l0, l1] (i := 0) rfl)) (VRs.cons (b1 _ _ (io0_at 0 [l0, l1] (i := 1) rfl)) (VRs.cons (.int _ _) (VRs.nil _)))
  subst he
  exact ⟨_, rfl, law_post tab3 (by kernel_rfl) (tb := 4) (by kernel_rfl) (by kernel_rfl) rfl rfl hW' ho⟩

theorem leaseRestarts_holds : Rows.LeaseRestartsSaid :=
  OpenClaim.holds_of_wide 3 Try.f3 rfl rfl rfl rfl rfl rfl rfl ⟨rfl, rfl, rfl, rfl, rfl⟩ rfl rfl rfl rfl rfl (by kernel_rfl) Try.func3 (by kernel_rfl)
    (of_decide_eq_true (by kernel_rfl)) (by unfold Func.isWrapper; first | (rw [if_pos (by decide +kernel)]; kernel_rfl) | (rw [if_neg (by decide +kernel)]; exact ⟨rfl, rfl⟩))
    (fun os started H enc _ => leaseRestarts_lifted os started H enc)
end Go.Proofs.Ytfgolglgogmniaa
