/- LeaseFrees: the machine's run with any input ends with true. -/
import Derived.Test.YtfgolglgogmniaaIssue
import Derived.Test.YtfgolglgogmniaaAw
import Derived.Test.YtfgolglgogmniaaRows
namespace Go.Am
set_option maxRecDepth 100000
set_option maxHeartbeats 8000000
def clipF (n lo hi : Int) : Int := max lo (min n hi)
theorem clip_ok (L d : Nat) (n lo hi : Int) (h : H) {Q : V → H → Prop} (k : Q (.int .i64 (clipF n lo hi)) h) : Ens (call fnt L (d + 1) p13 [.int .i64 n, .int .i64 lo, .int .i64 hi] h) Q := by
  refine w_fn (af := af13) rfl rfl rfl ?_
  refine w_seq ?_
  refine w_reg ?_
  refine w_mv_int rfl ?_
  refine w_kp ?_
  refine w_nil ?_
  refine w_seq ?_
  refine w_reg ?_
  refine w_mv_int (evs' (gsn rfl rfl)) ?_
  refine w_mv_int (evs' (gsn rfl rfl)) ?_
  refine w_mv_int (evs' (gsn rfl rfl)) ?_
  refine w_mn2 rfl rfl ?_
  refine w_mx2 rfl rfl ?_
  refine w_mv_int rfl ?_
  refine w_kp ?_
  refine w_nil ?_
  refine w_ret ?_
  refine ens_ret1 gse ?_
  exact k
theorem chF_mod (x : Int) : chF (x % 4) = chF x := by unfold chF; rw [Int.emod_emod_of_dvd x (Int.dvd_refl 4)]
theorem flat3_refl (k0 : IntKind) (a b c : Int) : eqF (.flat [.int, .int, .int]) (.agg [.int k0 a, .int k0 b, .int k0 c]) (.agg [.int k0 a, .int k0 b, .int k0 c]) = some true := by
  have e : ∀ (k : IntKind) (x : Int), skEq .int (.int k x) (.int k x) = some true := by
    intro k x
    show cond (kEq k k) (some (intEq x x)) none = _
    rw [kEq_refl, (intEq_iff x x).2 rfl]
    rfl
  show flatEq [.int, .int, .int] [.int k0 a, .int k0 b, .int k0 c] [.int k0 a, .int k0 b, .int k0 c] = _
  simp only [flatEq, e]
  rfl
theorem frees_ok (L : Nat) (hL : 1001 ≤ L) (h00 h : H) (va : V) (FA : List P) (xa : List (List V)) (len ppm : Int) (aw : call fnt L 19 p8 [] h00 = .ok (.bool true) h) (aw2 : Ens (call fnt L 19 p8 [] h) fun v _ => v = .bool true)
    (A : Ar 6 h va FA xa) (eA : ∀ e ∈ xa, ∃ k c a b d g, e = [.int .u8 k, .int .u8 c, .int .i64 a, .int .i64 b, .int .i64 d, .int .i64 g] ∧ 0 ≤ c ∧ c < 256) :
    Ens (call fnt L 20 p6 [.int .i64 len, .int .i64 ppm, va] h00) (fun v _ => v = .bool true) := by
  have hcl : 1 ≤ clipF len 1 1073741824 ∧ clipF len 1 1073741824 ≤ 1073741824 := by unfold clipF; omega
  refine w_fn (af := af6) rfl rfl rfl ?_
  refine w_seq ?_
  refine w_reg ?_
  refine w_mv_bool rfl ?_
  refine w_kp ?_
  refine w_nil ?_
  refine w_seq ?_
  refine w_seq ?_
  refine w_reg ?_
  refine w_call (ens_eq aw ?_)
  refine w_not rfl ?_
  refine w_mv_bool rfl ?_
  refine w_gop rfl (fun _ => ?_) (fun hh => nomatch hh)
  refine w_mv (evs' (gsn rfl rfl)) ?_
  refine w_gop rfl (fun _ => ?_) (fun hh => nomatch hh)
  refine w_ar_len A rfl ?_
  refine w_gop rfl (fun _ => ?_) (fun hh => nomatch hh)
  refine w_gt rfl rfl (fun c1 => ?_) (fun c1 => ?_)
  ·
    refine w_pick rfl (fun hh => nomatch hh) (fun _ => ?_)
    refine w_mv_bool rfl ?_
    refine w_kp ?_
    refine w_nil ?_
    refine w_cond (evs' gse) (fun _ => ?_) (fun hh => nomatch hh)
    refine w_seq ?_
    refine w_reg ?_
    refine w_call (aw2.mono fun v hv2 hv => ?_)
    subst hv
    refine w_mv_bool rfl ?_
    refine w_kp ?_
    refine w_nil ?_
    refine w_ret ?_
    refine ens_ret1 gse ?_
    exact rfl
  ·
    refine w_pick rfl (fun hh => nomatch hh) (fun _ => ?_)
    refine w_mv_bool rfl ?_
    refine w_kp ?_
    refine w_nil ?_
    refine w_cond (evs' gse) (fun hh => nomatch hh) (fun _ => ?_)
    refine w_skip ?_
    refine w_seq ?_
    refine w_reg ?_
    refine w_mv_int (evs' (gsn rfl (gsn rfl rfl))) ?_
    refine w_call (clip_ok _ _ _ _ _ _ ?_)
    refine w_mv_int (evs' (gsn rfl (gsn rfl rfl))) ?_
    refine w_call (newIssuer_ok _ _ _ _ _ hcl.1 hcl.2 (fun n1 h1 hb_n1 kp1 nn1 hn1 => ?_))
    have nf_n1_A := A.new nn1
    have A := A.keep kp1 nF0
    have X1 : Sl 3 h1 .nilsl [] (([] : List Ent).map ge) := Sl.nilsl 3 h1
    have lt_n1 : n1.num < h1.next.num := by omega
    have nf_n1_X1 : n1 ∉ ([] : List P) := ni0
    have dj_A_X1 : ∀ x ∈ _, x ∉ ([] : List P) := nF0 (F := FA)
    have dj_X1_A : ∀ x ∈ ([] : List P), x ∉ FA := fun x hx => nomatch hx
    refine w_mv_tup rfl ?_
    refine w_eq rfl ?_
    refine w_eq rfl ?_
    refine w_mv_ptr rfl ?_
    refine w_kp ?_
    refine w_mv_nif rfl ?_
    refine w_kp ?_
    refine w_nil ?_
    refine w_seq ?_
    refine w_reg ?_
    refine w_mv_int (evs' (gsn rfl (gsn rfl (gsn rfl (gsn rfl rfl))))) ?_
    refine w_call (clip_ok _ _ _ _ _ _ ?_)
    refine w_mv_int (evs' (gsn rfl (gsn rfl (gsn rfl (gsn rfl rfl))))) ?_
    refine w_call (newIssuer_ok _ _ _ _ _ hcl.1 hcl.2 (fun n2 h2 hb_n2 kp2 nn2 hn2 => ?_))
    have nf_n2_A := A.new nn2
    have nf_n2_X1 := X1.new nn2
    have hb_n1 := kp2.get hb_n1 lt_n1 ni0
    have A := A.keep kp2 nF0
    have X1 := X1.keep kp2 nF0
    have lt_n1 := kp2.lt lt_n1
    have X2 : Sl 3 h2 .nilsl [] (([] : List Ent).map ge) := Sl.nilsl 3 h2
    have lt_n2 : n2.num < h2.next.num := by omega
    have nf_n1_X2 : n1 ∉ ([] : List P) := ni0
    have nf_n2_X2 : n2 ∉ ([] : List P) := ni0
    have dj_A_X2 : ∀ x ∈ _, x ∉ ([] : List P) := nF0 (F := FA)
    have dj_X2_A : ∀ x ∈ ([] : List P), x ∉ FA := fun x hx => nomatch hx
    have dj_X1_X2 : ∀ x ∈ _, x ∉ ([] : List P) := nF0 (F := [])
    have dj_X2_X1 : ∀ x ∈ ([] : List P), x ∉ [] := fun x hx => nomatch hx
    refine w_mv_tup rfl ?_
    refine w_eq rfl ?_
    refine w_eq rfl ?_
    refine w_mv_ptr rfl ?_
    refine w_kp ?_
    refine w_mv_nif rfl ?_
    refine w_kp ?_
    refine w_nil ?_
    refine w_seq ?_
    refine w_seq ?_
    refine w_reg ?_
    refine w_mv_nif (evs' (gsn rfl (gsn rfl gse))) ?_
    refine w_eqv (t' := false) rfl rfl rfl rfl ?_
    refine w_mv_bool rfl ?_
    refine w_gop rfl (fun _ => ?_) (fun hh => nomatch hh)
    refine w_mv_nif (evs' gse) ?_
    refine w_gop rfl (fun _ => ?_) (fun hh => nomatch hh)
    refine w_eqv (t' := false) rfl rfl rfl rfl ?_
    refine w_pick rfl (fun hh => nomatch hh) (fun _ => ?_)
    refine w_mv_bool rfl ?_
    refine w_kp ?_
    refine w_nil ?_
    refine w_cond (evs' gse) (fun hh => nomatch hh) (fun _ => ?_)
    refine w_skip ?_
    refine w_seq ?_
    refine w_reg ?_
    refine w_mv_int rfl ?_
    refine w_kp ?_
    refine w_mv_int rfl ?_
    refine w_kp ?_
    refine w_nil ?_
    refine w_seq ?_
    refine w_seq ?_
    refine w_reg ?_
    refine w_mv_int rfl ?_
    refine w_kp ?_
    refine w_nil ?_
    refine w_block ?_
    refine w_loop (fun kk fr hh => ∃ (i : Int) (now : Int) (num : Int) (T : Int) (U : Int) (vx : V) (FX : List P) (lx : List Ent) (vy : V) (FY : List P) (ly : List Ent), fr.get p2 = some (va) ∧ fr.get p7 = some (.ptr n1 0) ∧ fr.get p9 = some (.ptr n2 0) ∧ fr.get p11 = some (.int .i64 now) ∧ fr.get p12 = some (.int .i64 num) ∧ fr.get p13 = some (.int .i64 i) ∧ (0 ≤ i) ∧ (i + (kk : Int) = xa.length) ∧ (0 ≤ now) ∧ (now ≤ 10000 * i) ∧ (0 ≤ num) ∧ (num ≤ 20) ∧ (0 ≤ T) ∧ (T ≤ now) ∧ (0 ≤ U) ∧ (U ≤ now) ∧ (Same now lx ly) ∧ (∀ y ∈ lx, ∃ q, 0 ≤ q ∧ q < 4 ∧ y.1 = chF q) ∧ ((lx.length : Int) ≤ i) ∧ ((ly.length : Int) ≤ i) ∧ (∀ y ∈ lx, y.2.2 ≤ now + 1200000000) ∧ (hh.get n1 = some (.cells [.int .i64 (clipF len 1 1073741824), .int .i64 ppm, .int .i64 T, vx] false)) ∧ (n1.num < hh.next.num) ∧ (hh.get n2 = some (.cells [.int .i64 (clipF len 1 1073741824), .int .i64 ppm, .int .i64 U, vy] false)) ∧ (n2.num < hh.next.num) ∧ (Sl 3 hh vx FX (lx.map ge)) ∧ (Sl 3 hh vy FY (ly.map ge)) ∧ (Ar 6 hh va FA xa) ∧ (n1 ∉ FX) ∧ (n1 ∉ FY) ∧ (n1 ∉ FA) ∧ (n2 ∉ FX) ∧ (n2 ∉ FY) ∧ (n2 ∉ FA) ∧ (∀ x ∈ FX, x ∉ FY) ∧ (∀ x ∈ FY, x ∉ FX) ∧ (∀ x ∈ FA, x ∉ FX) ∧ (∀ x ∈ FA, x ∉ FY)) (k := xa.length) (by omega) ⟨0, 0, 0, 0, 0, _, _, [], _, _, [], (gsn rfl (gsn rfl (gsn rfl (gsn rfl (gsn rfl (gsn rfl (gsn rfl (gsn rfl (gsn rfl (gsn rfl rfl)))))))))), (gsn rfl (gsn rfl (gsn rfl (gsn rfl (gsn rfl (gsn rfl (gsn rfl gse))))))), (gsn rfl (gsn rfl (gsn rfl (gsn rfl (gsn rfl gse))))), (gsn rfl (gsn rfl gse)), (gsn rfl gse), gse, (by omega), (by omega), (by omega), (by omega), (by omega), (by omega), (by omega), (by omega), (by omega), (by omega), (⟨fun y hy => hy, fun y hy _ => hy⟩), (fun y hy => nomatch hy), (by simp), (by simp), (fun y hy => nomatch hy), hb_n1, lt_n1, hb_n2, lt_n2, X1, X2, A, nf_n1_X1, nf_n1_X2, nf_n1_A, nf_n2_X1, nf_n2_X2, nf_n2_A, dj_X1_X2, dj_X2_X1, dj_A_X1, dj_A_X2⟩ ?_
    rintro kk fr hh ⟨i, now, num, T, U, vx, FX, lx, vy, FY, ly, f_p2, f_p7, f_p9, f_p11, f_p12, f_p13, hi, hk, hnow, hnow2, hnum, hnum2, hT, hT2, hU, hU2, hsame, hch, hlx, hly, hun, hb_n1, lt_n1, hb_n2, lt_n2, X, Y, A, nf_n1_X, nf_n1_Y, nf_n1_A, nf_n2_X, nf_n2_Y, nf_n2_A, dj_X_Y, dj_Y_X, dj_A_X, dj_A_Y⟩
    refine w_seq ?_
    refine w_seq ?_
    refine w_reg ?_
    refine w_mv_int (evs' f_p13) ?_
    refine w_mv (evs' f_p2) ?_
    refine w_ar_len A rfl ?_
    refine w_lt rfl rfl (fun c2 => ?_) (fun c2 => ?_)
    ·
      refine w_kp ?_
      refine w_nil ?_
      refine w_cond (evs' gse) (fun _ => ?_) (fun hh => nomatch hh)
      refine w_skip ?_
      refine w_seq ?_
      refine w_block ?_
      refine w_seq ?_
      refine w_reg ?_
      refine w_mv (evs' (gsn rfl f_p2)) ?_
      refine w_mv_int (evs' (gsn rfl f_p13)) ?_
      refine w_ar_ix A rfl rfl (by omega) (by omega) (fun s3 o3 cs3 e3 ro3 hs3 he3 ht3 hf3 => ?_)
      obtain ⟨k3, d3, a3, b3, g3, m3, rfl, hd3a, hd3b⟩ := eA _ (List.mem_of_getElem? he3)
      have hca : 0 ≤ clipF a3 0 10000 ∧ clipF a3 0 10000 ≤ 10000 := by unfold clipF; omega
      have hcg : 0 ≤ clipF g3 0 20 ∧ clipF g3 0 20 ≤ 20 := by unfold clipF; omega
      refine w_ldn rfl hs3 ht3 ?_
      refine m_alloc (fun n4 h4 hb_n4 kp4 nn4 hn4 => ?_)
      have nf_n4_X := X.new nn4
      have nf_n4_Y := Y.new nn4
      have nf_n4_A := A.new nn4
      have hs3 := kp4.get hs3 (A.lt _ hf3) (nF0 _ hf3)
      have hb_n1 := kp4.get hb_n1 lt_n1 ni0
      have hb_n2 := kp4.get hb_n2 lt_n2 ni0
      have X := X.keep kp4 nF0
      have Y := Y.keep kp4 nF0
      have A := A.keep kp4 nF0
      have lt_n1 := kp4.lt lt_n1
      have lt_n2 := kp4.lt lt_n2
      have lt_n4 : n4.num < h4.next.num := by omega
      refine w_kp ?_
      refine m_st_agg hb_n4 rfl rfl rfl rfl (fun h5 hq kp5 => ?_)
      have hs3 := kp5.get hs3 (A.lt _ hf3) ((nF1 nf_n4_A) _ hf3)
      have hb_n1 := kp5.get hb_n1 lt_n1 (ni1 (by omega))
      have hb_n2 := kp5.get hb_n2 lt_n2 (ni1 (by omega))
      have X := X.keep kp5 (nF1 nf_n4_X)
      have Y := Y.keep kp5 (nF1 nf_n4_Y)
      have A := A.keep kp5 (nF1 nf_n4_A)
      have lt_n1 := kp5.lt lt_n1
      have lt_n2 := kp5.lt lt_n2
      have lt_n4 := kp5.lt lt_n4
      have hb_n4 := hq
      refine w_nil ?_
      refine w_seq ?_
      refine w_reg ?_
      refine w_mv_int (evs' (gsn rfl (gsn rfl f_p11))) ?_
      refine w_fa (evs' gse) ?_
      refine w_ld rfl hb_n4 rfl ?_
      refine w_call (clip_ok _ _ _ _ _ _ ?_)
      refine w_add rfl rfl (wr64 (by omega) (by omega)) ?_
      refine w_mv_int rfl ?_
      refine w_kp ?_
      refine w_nil ?_
      refine w_seq ?_
      refine w_reg ?_
      refine w_fa (evs' (gsn rfl gse)) ?_
      refine w_ld rfl hb_n4 rfl ?_
      refine w_call (clip_ok _ _ _ _ _ _ ?_)
      refine w_mv_int rfl ?_
      refine w_kp ?_
      refine w_nil ?_
      refine w_seq ?_
      refine w_reg ?_
      refine w_mv_ptr (evs' (gsn rfl (gsn rfl (gsn rfl (gsn rfl f_p7))))) ?_
      refine w_fa (evs' (gsn rfl (gsn rfl gse))) ?_
      refine w_ld rfl hb_n4 rfl ?_
      refine w_mv_int (evs' gse) ?_
      refine w_mv_int (evs' (gsn rfl gse)) ?_
      refine w_fa (evs' (gsn rfl (gsn rfl gse))) ?_
      refine w_ld rfl hb_n4 rfl ?_
      refine m_name (fun n6 h6 hb_n6 kp6 nn6 hn6 => ?_)
      have nf_n6_X := X.new nn6
      have nf_n6_Y := Y.new nn6
      have nf_n6_A := A.new nn6
      have hb_n1 := kp6.get hb_n1 lt_n1 ni0
      have hb_n2 := kp6.get hb_n2 lt_n2 ni0
      have hb_n4 := kp6.get hb_n4 lt_n4 ni0
      have X := X.keep kp6 nF0
      have Y := Y.keep kp6 nF0
      have A := A.keep kp6 nF0
      have lt_n1 := kp6.lt lt_n1
      have lt_n2 := kp6.lt lt_n2
      have lt_n4 := kp6.lt lt_n4
      have lt_n6 : n6.num < h6.next.num := by omega
      refine w_call (child_ok _ _ _ _ (by omega) (fun h7 kp7 => ?_))
      have hb_n1 := kp7.get hb_n1 lt_n1 ni0
      have hb_n2 := kp7.get hb_n2 lt_n2 ni0
      have hb_n4 := kp7.get hb_n4 lt_n4 ni0
      have hb_n6 := kp7.get hb_n6 lt_n6 ni0
      have X := X.keep kp7 nF0
      have Y := Y.keep kp7 nF0
      have A := A.keep kp7 nF0
      have lt_n1 := kp7.lt lt_n1
      have lt_n2 := kp7.lt lt_n2
      have lt_n4 := kp7.lt lt_n4
      have lt_n6 := kp7.lt lt_n6
      refine w_re_ld rfl hb_n4 rfl rfl rfl (V.beq_int _ _) ?_
      refine w_call (grant_ok _ _ _ n1 _ _ _ _ _ _ _ _ _ _ _ hb_n1 X nf_n1_X lt_n1 (by omega) (by omega) (fun h8 he8 hq Sq kp8 => ?_) (fun h8 v8 F8 hs8 hl8 hq Sq kp8 hf8 => ?_))
      ·
        have hb_n2 := kp8.get hb_n2 lt_n2 (niC (by omega) nf_n2_X)
        have hb_n4 := kp8.get hb_n4 lt_n4 (niC (by omega) nf_n4_X)
        have hb_n6 := kp8.get hb_n6 lt_n6 (niC (by omega) nf_n6_X)
        have Y := Y.keep kp8 (nFC nf_n1_Y dj_Y_X)
        have A := A.keep kp8 (nFC nf_n1_A dj_A_X)
        have lt_n1 := kp8.lt lt_n1
        have lt_n2 := kp8.lt lt_n2
        have lt_n4 := kp8.lt lt_n4
        have lt_n6 := kp8.lt lt_n6
        have hb_n1 := hq
        have X := Sq
        have hr : rd (now + clipF a3 0 10000) T = (now + clipF a3 0 10000) := by unfold rd; omega
        rw [hr] at hb_n1
        refine w_mv_tup rfl ?_
        refine w_eq rfl ?_
        refine w_eq rfl ?_
        refine m_init hb_n6 rfl (fun h9 hq kp9 => ?_)
        have hb_n1 := kp9.get hb_n1 lt_n1 (ni1 (by omega))
        have hb_n2 := kp9.get hb_n2 lt_n2 (ni1 (by omega))
        have hb_n4 := kp9.get hb_n4 lt_n4 (ni1 (by omega))
        have X := X.keep kp9 (nF1 nf_n6_X)
        have Y := Y.keep kp9 (nF1 nf_n6_Y)
        have A := A.keep kp9 (nF1 nf_n6_A)
        have lt_n1 := kp9.lt lt_n1
        have lt_n2 := kp9.lt lt_n2
        have lt_n4 := kp9.lt lt_n4
        have lt_n6 := kp9.lt lt_n6
        have hb_n6 := hq
        refine m_st_agg hb_n6 rfl rfl rfl rfl (fun h10 hq kp10 => ?_)
        have hb_n1 := kp10.get hb_n1 lt_n1 (ni1 (by omega))
        have hb_n2 := kp10.get hb_n2 lt_n2 (ni1 (by omega))
        have hb_n4 := kp10.get hb_n4 lt_n4 (ni1 (by omega))
        have X := X.keep kp10 (nF1 nf_n6_X)
        have Y := Y.keep kp10 (nF1 nf_n6_Y)
        have A := A.keep kp10 (nF1 nf_n6_A)
        have lt_n1 := kp10.lt lt_n1
        have lt_n2 := kp10.lt lt_n2
        have lt_n4 := kp10.lt lt_n4
        have lt_n6 := kp10.lt lt_n6
        have hb_n6 := hq
        refine w_mv_if rfl ?_
        refine w_slot rfl ?_
        refine w_slot_ptr rfl ?_
        refine w_nil ?_
        refine w_seq ?_
        refine w_reg ?_
        refine w_mv_ptr (evs' (gsn rfl (gsn rfl (gsn rfl (gsn rfl (gsn rfl (gsn rfl f_p9))))))) ?_
        refine w_fa (evs' (gsn rfl (gsn rfl (gsn rfl (gsn rfl gse))))) ?_
        refine w_ld rfl hb_n4 rfl ?_
        refine w_mv_int (evs' (gsn rfl (gsn rfl gse))) ?_
        refine w_mv_int (evs' (gsn rfl (gsn rfl (gsn rfl gse)))) ?_
        refine w_fa (evs' (gsn rfl (gsn rfl (gsn rfl (gsn rfl gse))))) ?_
        refine w_ld rfl hb_n4 rfl ?_
        refine m_name (fun n11 h11 hb_n11 kp11 nn11 hn11 => ?_)
        have nf_n11_X := X.new nn11
        have nf_n11_Y := Y.new nn11
        have nf_n11_A := A.new nn11
        have hb_n1 := kp11.get hb_n1 lt_n1 ni0
        have hb_n2 := kp11.get hb_n2 lt_n2 ni0
        have hb_n4 := kp11.get hb_n4 lt_n4 ni0
        have hb_n6 := kp11.get hb_n6 lt_n6 ni0
        have X := X.keep kp11 nF0
        have Y := Y.keep kp11 nF0
        have A := A.keep kp11 nF0
        have lt_n1 := kp11.lt lt_n1
        have lt_n2 := kp11.lt lt_n2
        have lt_n4 := kp11.lt lt_n4
        have lt_n6 := kp11.lt lt_n6
        have lt_n11 : n11.num < h11.next.num := by omega
        refine w_call (child_ok _ _ _ _ (by omega) (fun h12 kp12 => ?_))
        have hb_n1 := kp12.get hb_n1 lt_n1 ni0
        have hb_n2 := kp12.get hb_n2 lt_n2 ni0
        have hb_n4 := kp12.get hb_n4 lt_n4 ni0
        have hb_n6 := kp12.get hb_n6 lt_n6 ni0
        have hb_n11 := kp12.get hb_n11 lt_n11 ni0
        have X := X.keep kp12 nF0
        have Y := Y.keep kp12 nF0
        have A := A.keep kp12 nF0
        have lt_n1 := kp12.lt lt_n1
        have lt_n2 := kp12.lt lt_n2
        have lt_n4 := kp12.lt lt_n4
        have lt_n6 := kp12.lt lt_n6
        have lt_n11 := kp12.lt lt_n11
        refine w_re_ld rfl hb_n4 rfl rfl rfl (V.beq_int _ _) ?_
        refine w_call (grant_ok _ _ _ n2 _ _ _ _ _ _ _ _ _ _ _ hb_n2 Y nf_n2_Y lt_n2 (by omega) (by omega) (fun h13 he13 hq Sq kp13 => ?_) (fun h13 v13 F13 hs13 hl13 hq Sq kp13 hf13 => ?_))
        ·
          have hb_n1 := kp13.get hb_n1 lt_n1 (niC (by omega) nf_n1_Y)
          have hb_n4 := kp13.get hb_n4 lt_n4 (niC (by omega) nf_n4_Y)
          have hb_n6 := kp13.get hb_n6 lt_n6 (niC (by omega) nf_n6_Y)
          have hb_n11 := kp13.get hb_n11 lt_n11 (niC (by omega) nf_n11_Y)
          have X := X.keep kp13 (nFC nf_n2_X dj_X_Y)
          have A := A.keep kp13 (nFC nf_n2_A dj_A_Y)
          have lt_n1 := kp13.lt lt_n1
          have lt_n2 := kp13.lt lt_n2
          have lt_n4 := kp13.lt lt_n4
          have lt_n6 := kp13.lt lt_n6
          have lt_n11 := kp13.lt lt_n11
          have hb_n2 := hq
          have Y := Sq
          have hr : rd (now + clipF a3 0 10000) U = (now + clipF a3 0 10000) := by unfold rd; omega
          rw [hr] at hb_n2
          refine w_mv_tup rfl ?_
          refine w_eq rfl ?_
          refine w_eq rfl ?_
          refine m_init hb_n11 rfl (fun h14 hq kp14 => ?_)
          have hb_n1 := kp14.get hb_n1 lt_n1 (ni1 (by omega))
          have hb_n2 := kp14.get hb_n2 lt_n2 (ni1 (by omega))
          have hb_n4 := kp14.get hb_n4 lt_n4 (ni1 (by omega))
          have hb_n6 := kp14.get hb_n6 lt_n6 (ni1 (by omega))
          have X := X.keep kp14 (nF1 nf_n11_X)
          have Y := Y.keep kp14 (nF1 nf_n11_Y)
          have A := A.keep kp14 (nF1 nf_n11_A)
          have lt_n1 := kp14.lt lt_n1
          have lt_n2 := kp14.lt lt_n2
          have lt_n4 := kp14.lt lt_n4
          have lt_n6 := kp14.lt lt_n6
          have lt_n11 := kp14.lt lt_n11
          have hb_n11 := hq
          refine m_st_agg hb_n11 rfl rfl rfl rfl (fun h15 hq kp15 => ?_)
          have hb_n1 := kp15.get hb_n1 lt_n1 (ni1 (by omega))
          have hb_n2 := kp15.get hb_n2 lt_n2 (ni1 (by omega))
          have hb_n4 := kp15.get hb_n4 lt_n4 (ni1 (by omega))
          have hb_n6 := kp15.get hb_n6 lt_n6 (ni1 (by omega))
          have X := X.keep kp15 (nF1 nf_n11_X)
          have Y := Y.keep kp15 (nF1 nf_n11_Y)
          have A := A.keep kp15 (nF1 nf_n11_A)
          have lt_n1 := kp15.lt lt_n1
          have lt_n2 := kp15.lt lt_n2
          have lt_n4 := kp15.lt lt_n4
          have lt_n6 := kp15.lt lt_n6
          have lt_n11 := kp15.lt lt_n11
          have hb_n11 := hq
          refine w_mv_if rfl ?_
          refine w_slot rfl ?_
          refine w_slot_ptr rfl ?_
          refine w_nil ?_
          refine w_seq ?_
          refine w_reg ?_
          refine w_mv_ptr (evs' (gsn rfl (gsn rfl (gsn rfl (gsn rfl (gsn rfl (gsn rfl (gsn rfl (gsn rfl f_p9))))))))) ?_
          refine w_mv_int (evs' (gsn rfl (gsn rfl (gsn rfl (gsn rfl (gsn rfl gse)))))) ?_
          refine w_call (forget_ok _ _ _ n2 _ _ _ _ _ _ _ hb_n2 Y nf_n2_Y lt_n2 (by first | omega | (simp; omega)) (by omega) (fun h16 v16 F16 hq Sq kp16 hf16 => ?_))
          have nf_n1_S16 := fresh_nf hf16 lt_n1
          have nf_n2_S16 := fresh_nf hf16 lt_n2
          have nf_n4_S16 := fresh_nf hf16 lt_n4
          have nf_n6_S16 := fresh_nf hf16 lt_n6
          have nf_n11_S16 := fresh_nf hf16 lt_n11
          have dj_X_S16 := fresh_dj X.lt hf16
          have dj_S16_X := dj_symm dj_X_S16
          have dj_A_S16 := fresh_dj A.lt hf16
          have dj_S16_A := dj_symm dj_A_S16
          have hb_n1 := kp16.get hb_n1 lt_n1 (ni1 (by omega))
          have hb_n4 := kp16.get hb_n4 lt_n4 (ni1 (by omega))
          have hb_n6 := kp16.get hb_n6 lt_n6 (ni1 (by omega))
          have hb_n11 := kp16.get hb_n11 lt_n11 (ni1 (by omega))
          have X := X.keep kp16 (nF1 nf_n2_X)
          have A := A.keep kp16 (nF1 nf_n2_A)
          have lt_n1 := kp16.lt lt_n1
          have lt_n2 := kp16.lt lt_n2
          have lt_n4 := kp16.lt lt_n4
          have lt_n6 := kp16.lt lt_n6
          have lt_n11 := kp16.lt lt_n11
          have hr9 : rd (now + clipF a3 0 10000) (now + clipF a3 0 10000) = (now + clipF a3 0 10000) := by unfold rd; omega
          rw [hr9] at hq Sq
          have hb_n2 := hq
          have S16 := Sq
          refine w_nil ?_
          refine w_seq ?_
          refine w_reg ?_
          refine w_ldn (evs' (gsn rfl (gsn rfl gse))) hb_n6 rfl ?_
          refine w_ldn (evs' gse) hb_n11 rfl ?_
          refine w_eqv (t' := false) rfl rfl (flat3_refl _ _ _ _) rfl ?_
          refine w_mv_bool rfl ?_
          refine w_gop rfl (fun _ => ?_) (fun hh => nomatch hh)
          refine w_mv_if (evs' (gsn rfl (gsn rfl (gsn rfl gse)))) ?_
          refine w_gcall rfl (fun _ => ?_) (fun hh => nomatch hh)
          refine w_call (ens_eq (num_one _ _ _) ?_)
          refine w_gop rfl (fun _ => ?_) (fun hh => nomatch hh)
          refine w_mv_if (evs' (gsn rfl gse)) ?_
          refine w_gcall rfl (fun _ => ?_) (fun hh => nomatch hh)
          refine w_call (ens_eq (num_one _ _ _) ?_)
          refine w_gop rfl (fun _ => ?_) (fun hh => nomatch hh)
          refine w_ine rfl rfl (fun c3 => absurd rfl c3) (fun c3 => ?_)
          refine w_pick rfl (fun hh => nomatch hh) (fun _ => ?_)
          refine w_mv_bool rfl ?_
          refine w_kp ?_
          refine w_nil ?_
          refine w_cond (evs' gse) (fun hh => nomatch hh) (fun _ => ?_)
          refine w_skip ?_
          refine w_reg ?_
          refine w_mv_int (evs' (gsn rfl (gsn rfl (gsn rfl (gsn rfl (gsn rfl (gsn rfl (gsn rfl (gsn rfl (gsn rfl f_p13)))))))))) ?_
          refine w_add rfl rfl (wr64 (by omega) (by omega)) ?_
          refine w_mv_int rfl ?_
          refine w_kp ?_
          refine w_nil ?_
          have hlx2 : (lx.length : Int) ≤ i + 1 := by omega
          have hly2 : ((ly.filter fun z => decide ((now + clipF a3 0 10000) < z.2.2)).length : Int) ≤ i + 1 := by have := List.length_filter_le (fun z : Ent => decide ((now + clipF a3 0 10000) < z.2.2)) ly; omega
          exact ⟨kk - 1, by omega, i + 1, _, _, _, _, _, _, _, _, _, _, (gsn rfl (gsn rfl (gsn rfl (gsn rfl (gsn rfl (gsn rfl (gsn rfl (gsn rfl (gsn rfl (gsn rfl f_p2)))))))))), (gsn rfl (gsn rfl (gsn rfl (gsn rfl (gsn rfl (gsn rfl (gsn rfl (gsn rfl (gsn rfl (gsn rfl f_p7)))))))))), (gsn rfl (gsn rfl (gsn rfl (gsn rfl (gsn rfl (gsn rfl (gsn rfl (gsn rfl (gsn rfl (gsn rfl f_p9)))))))))), (gsn rfl (gsn rfl (gsn rfl (gsn rfl (gsn rfl (gsn rfl (gsn rfl gse))))))), (gsn rfl (gsn rfl (gsn rfl (gsn rfl (gsn rfl (gsn rfl gse)))))), gse, (by omega), (by omega), (by omega), (by omega), (by omega), (by omega), (by omega), (by omega), (by omega), (by omega), (hsame.step0 (by omega)), (hch), (hlx2), (hly2), (fun y hy => by have := hun y hy; omega), hb_n1, lt_n1, hb_n2, lt_n2, X, S16, A, nf_n1_X, nf_n1_S16, nf_n1_A, nf_n2_X, nf_n2_S16, nf_n2_A, dj_X_S16, dj_S16_X, dj_A_X, dj_A_S16⟩
        ·
          omega
      ·
        have nf_n1_S8 := fresh_nf hf8 lt_n1
        have nf_n2_S8 := fresh_nf hf8 lt_n2
        have nf_n4_S8 := fresh_nf hf8 lt_n4
        have nf_n6_S8 := fresh_nf hf8 lt_n6
        have dj_Y_S8 := fresh_dj Y.lt hf8
        have dj_S8_Y := dj_symm dj_Y_S8
        have dj_A_S8 := fresh_dj A.lt hf8
        have dj_S8_A := dj_symm dj_A_S8
        have hb_n2 := kp8.get hb_n2 lt_n2 (niC (by omega) nf_n2_X)
        have hb_n4 := kp8.get hb_n4 lt_n4 (niC (by omega) nf_n4_X)
        have hb_n6 := kp8.get hb_n6 lt_n6 (niC (by omega) nf_n6_X)
        have Y := Y.keep kp8 (nFC nf_n1_Y dj_Y_X)
        have A := A.keep kp8 (nFC nf_n1_A dj_A_X)
        have lt_n1 := kp8.lt lt_n1
        have lt_n2 := kp8.lt lt_n2
        have lt_n4 := kp8.lt lt_n4
        have lt_n6 := kp8.lt lt_n6
        have hb_n1 := hq
        have S8 := Sq
        have hr : rd (now + clipF a3 0 10000) T = (now + clipF a3 0 10000) := by unfold rd; omega
        rw [hr] at hb_n1 S8
        refine w_mv_tup rfl ?_
        refine w_eq rfl ?_
        refine w_eq rfl ?_
        refine m_init hb_n6 rfl (fun h9 hq kp9 => ?_)
        have hb_n1 := kp9.get hb_n1 lt_n1 (ni1 (by omega))
        have hb_n2 := kp9.get hb_n2 lt_n2 (ni1 (by omega))
        have hb_n4 := kp9.get hb_n4 lt_n4 (ni1 (by omega))
        have Y := Y.keep kp9 (nF1 nf_n6_Y)
        have A := A.keep kp9 (nF1 nf_n6_A)
        have S8 := S8.keep kp9 (nF1 nf_n6_S8)
        have lt_n1 := kp9.lt lt_n1
        have lt_n2 := kp9.lt lt_n2
        have lt_n4 := kp9.lt lt_n4
        have lt_n6 := kp9.lt lt_n6
        have hb_n6 := hq
        refine m_st_agg hb_n6 rfl rfl rfl rfl (fun h10 hq kp10 => ?_)
        have hb_n1 := kp10.get hb_n1 lt_n1 (ni1 (by omega))
        have hb_n2 := kp10.get hb_n2 lt_n2 (ni1 (by omega))
        have hb_n4 := kp10.get hb_n4 lt_n4 (ni1 (by omega))
        have Y := Y.keep kp10 (nF1 nf_n6_Y)
        have A := A.keep kp10 (nF1 nf_n6_A)
        have S8 := S8.keep kp10 (nF1 nf_n6_S8)
        have lt_n1 := kp10.lt lt_n1
        have lt_n2 := kp10.lt lt_n2
        have lt_n4 := kp10.lt lt_n4
        have lt_n6 := kp10.lt lt_n6
        have hb_n6 := hq
        refine w_mv_nif rfl ?_
        refine w_slot rfl ?_
        refine w_slot_ptr rfl ?_
        refine w_nil ?_
        refine w_seq ?_
        refine w_reg ?_
        refine w_mv_ptr (evs' (gsn rfl (gsn rfl (gsn rfl (gsn rfl (gsn rfl (gsn rfl f_p9))))))) ?_
        refine w_fa (evs' (gsn rfl (gsn rfl (gsn rfl (gsn rfl gse))))) ?_
        refine w_ld rfl hb_n4 rfl ?_
        refine w_mv_int (evs' (gsn rfl (gsn rfl gse))) ?_
        refine w_mv_int (evs' (gsn rfl (gsn rfl (gsn rfl gse)))) ?_
        refine w_fa (evs' (gsn rfl (gsn rfl (gsn rfl (gsn rfl gse))))) ?_
        refine w_ld rfl hb_n4 rfl ?_
        refine m_name (fun n11 h11 hb_n11 kp11 nn11 hn11 => ?_)
        have nf_n11_Y := Y.new nn11
        have nf_n11_A := A.new nn11
        have nf_n11_S8 := S8.new nn11
        have hb_n1 := kp11.get hb_n1 lt_n1 ni0
        have hb_n2 := kp11.get hb_n2 lt_n2 ni0
        have hb_n4 := kp11.get hb_n4 lt_n4 ni0
        have hb_n6 := kp11.get hb_n6 lt_n6 ni0
        have Y := Y.keep kp11 nF0
        have A := A.keep kp11 nF0
        have S8 := S8.keep kp11 nF0
        have lt_n1 := kp11.lt lt_n1
        have lt_n2 := kp11.lt lt_n2
        have lt_n4 := kp11.lt lt_n4
        have lt_n6 := kp11.lt lt_n6
        have lt_n11 : n11.num < h11.next.num := by omega
        refine w_call (child_ok _ _ _ _ (by omega) (fun h12 kp12 => ?_))
        have hb_n1 := kp12.get hb_n1 lt_n1 ni0
        have hb_n2 := kp12.get hb_n2 lt_n2 ni0
        have hb_n4 := kp12.get hb_n4 lt_n4 ni0
        have hb_n6 := kp12.get hb_n6 lt_n6 ni0
        have hb_n11 := kp12.get hb_n11 lt_n11 ni0
        have Y := Y.keep kp12 nF0
        have A := A.keep kp12 nF0
        have S8 := S8.keep kp12 nF0
        have lt_n1 := kp12.lt lt_n1
        have lt_n2 := kp12.lt lt_n2
        have lt_n4 := kp12.lt lt_n4
        have lt_n6 := kp12.lt lt_n6
        have lt_n11 := kp12.lt lt_n11
        refine w_re_ld rfl hb_n4 rfl rfl rfl (V.beq_int _ _) ?_
        refine w_call (grant_ok _ _ _ n2 _ _ _ _ _ _ _ _ _ _ _ hb_n2 Y nf_n2_Y lt_n2 (by omega) (by omega) (fun h13 he13 hq Sq kp13 => ?_) (fun h13 v13 F13 hs13 hl13 hq Sq kp13 hf13 => ?_))
        ·
          have hb_n1 := kp13.get hb_n1 lt_n1 (niC (by omega) nf_n1_Y)
          have hb_n4 := kp13.get hb_n4 lt_n4 (niC (by omega) nf_n4_Y)
          have hb_n6 := kp13.get hb_n6 lt_n6 (niC (by omega) nf_n6_Y)
          have hb_n11 := kp13.get hb_n11 lt_n11 (niC (by omega) nf_n11_Y)
          have A := A.keep kp13 (nFC nf_n2_A dj_A_Y)
          have S8 := S8.keep kp13 (nFC nf_n2_S8 dj_S8_Y)
          have lt_n1 := kp13.lt lt_n1
          have lt_n2 := kp13.lt lt_n2
          have lt_n4 := kp13.lt lt_n4
          have lt_n6 := kp13.lt lt_n6
          have lt_n11 := kp13.lt lt_n11
          have hb_n2 := hq
          have Y := Sq
          have hr : rd (now + clipF a3 0 10000) U = (now + clipF a3 0 10000) := by unfold rd; omega
          rw [hr] at hb_n2
          omega
        ·
          have nf_n1_S13 := fresh_nf hf13 lt_n1
          have nf_n2_S13 := fresh_nf hf13 lt_n2
          have nf_n4_S13 := fresh_nf hf13 lt_n4
          have nf_n6_S13 := fresh_nf hf13 lt_n6
          have nf_n11_S13 := fresh_nf hf13 lt_n11
          have dj_A_S13 := fresh_dj A.lt hf13
          have dj_S13_A := dj_symm dj_A_S13
          have dj_S8_S13 := fresh_dj S8.lt hf13
          have dj_S13_S8 := dj_symm dj_S8_S13
          have hb_n1 := kp13.get hb_n1 lt_n1 (niC (by omega) nf_n1_Y)
          have hb_n4 := kp13.get hb_n4 lt_n4 (niC (by omega) nf_n4_Y)
          have hb_n6 := kp13.get hb_n6 lt_n6 (niC (by omega) nf_n6_Y)
          have hb_n11 := kp13.get hb_n11 lt_n11 (niC (by omega) nf_n11_Y)
          have A := A.keep kp13 (nFC nf_n2_A dj_A_Y)
          have S8 := S8.keep kp13 (nFC nf_n2_S8 dj_S8_Y)
          have lt_n1 := kp13.lt lt_n1
          have lt_n2 := kp13.lt lt_n2
          have lt_n4 := kp13.lt lt_n4
          have lt_n6 := kp13.lt lt_n6
          have lt_n11 := kp13.lt lt_n11
          have hb_n2 := hq
          have S13 := Sq
          have hr : rd (now + clipF a3 0 10000) U = (now + clipF a3 0 10000) := by unfold rd; omega
          rw [hr] at hb_n2 S13
          refine w_mv_tup rfl ?_
          refine w_eq rfl ?_
          refine w_eq rfl ?_
          refine m_init hb_n11 rfl (fun h14 hq kp14 => ?_)
          have hb_n1 := kp14.get hb_n1 lt_n1 (ni1 (by omega))
          have hb_n2 := kp14.get hb_n2 lt_n2 (ni1 (by omega))
          have hb_n4 := kp14.get hb_n4 lt_n4 (ni1 (by omega))
          have hb_n6 := kp14.get hb_n6 lt_n6 (ni1 (by omega))
          have A := A.keep kp14 (nF1 nf_n11_A)
          have S8 := S8.keep kp14 (nF1 nf_n11_S8)
          have S13 := S13.keep kp14 (nF1 nf_n11_S13)
          have lt_n1 := kp14.lt lt_n1
          have lt_n2 := kp14.lt lt_n2
          have lt_n4 := kp14.lt lt_n4
          have lt_n6 := kp14.lt lt_n6
          have lt_n11 := kp14.lt lt_n11
          have hb_n11 := hq
          refine m_st_agg hb_n11 rfl rfl rfl rfl (fun h15 hq kp15 => ?_)
          have hb_n1 := kp15.get hb_n1 lt_n1 (ni1 (by omega))
          have hb_n2 := kp15.get hb_n2 lt_n2 (ni1 (by omega))
          have hb_n4 := kp15.get hb_n4 lt_n4 (ni1 (by omega))
          have hb_n6 := kp15.get hb_n6 lt_n6 (ni1 (by omega))
          have A := A.keep kp15 (nF1 nf_n11_A)
          have S8 := S8.keep kp15 (nF1 nf_n11_S8)
          have S13 := S13.keep kp15 (nF1 nf_n11_S13)
          have lt_n1 := kp15.lt lt_n1
          have lt_n2 := kp15.lt lt_n2
          have lt_n4 := kp15.lt lt_n4
          have lt_n6 := kp15.lt lt_n6
          have lt_n11 := kp15.lt lt_n11
          have hb_n11 := hq
          refine w_mv_nif rfl ?_
          refine w_slot rfl ?_
          refine w_slot_ptr rfl ?_
          refine w_nil ?_
          refine w_seq ?_
          refine w_reg ?_
          refine w_mv_ptr (evs' (gsn rfl (gsn rfl (gsn rfl (gsn rfl (gsn rfl (gsn rfl (gsn rfl (gsn rfl f_p9))))))))) ?_
          refine w_mv_int (evs' (gsn rfl (gsn rfl (gsn rfl (gsn rfl (gsn rfl gse)))))) ?_
          refine w_call (forget_ok _ _ _ n2 _ _ _ _ _ _ _ hb_n2 S13 nf_n2_S13 lt_n2 (by first | omega | (simp; omega)) (by omega) (fun h16 v16 F16 hq Sq kp16 hf16 => ?_))
          have nf_n1_S16 := fresh_nf hf16 lt_n1
          have nf_n2_S16 := fresh_nf hf16 lt_n2
          have nf_n4_S16 := fresh_nf hf16 lt_n4
          have nf_n6_S16 := fresh_nf hf16 lt_n6
          have nf_n11_S16 := fresh_nf hf16 lt_n11
          have dj_A_S16 := fresh_dj A.lt hf16
          have dj_S16_A := dj_symm dj_A_S16
          have dj_S8_S16 := fresh_dj S8.lt hf16
          have dj_S16_S8 := dj_symm dj_S8_S16
          have hb_n1 := kp16.get hb_n1 lt_n1 (ni1 (by omega))
          have hb_n4 := kp16.get hb_n4 lt_n4 (ni1 (by omega))
          have hb_n6 := kp16.get hb_n6 lt_n6 (ni1 (by omega))
          have hb_n11 := kp16.get hb_n11 lt_n11 (ni1 (by omega))
          have A := A.keep kp16 (nF1 nf_n2_A)
          have S8 := S8.keep kp16 (nF1 nf_n2_S8)
          have lt_n1 := kp16.lt lt_n1
          have lt_n2 := kp16.lt lt_n2
          have lt_n4 := kp16.lt lt_n4
          have lt_n6 := kp16.lt lt_n6
          have lt_n11 := kp16.lt lt_n11
          have hr9 : rd (now + clipF a3 0 10000) (now + clipF a3 0 10000) = (now + clipF a3 0 10000) := by unfold rd; omega
          rw [hr9] at hq Sq
          have hb_n2 := hq
          have S16 := Sq
          refine w_nil ?_
          refine w_seq ?_
          refine w_reg ?_
          refine w_ldn (evs' (gsn rfl (gsn rfl gse))) hb_n6 rfl ?_
          refine w_ldn (evs' gse) hb_n11 rfl ?_
          refine w_eqv (t' := false) rfl rfl (flat3_refl _ _ _ _) rfl ?_
          refine w_mv_bool rfl ?_
          refine w_gop rfl (fun _ => ?_) (fun hh => nomatch hh)
          refine w_mv_nif (evs' (gsn rfl (gsn rfl (gsn rfl gse)))) ?_
          refine w_gcall rfl (fun _ => ?_) (fun hh => nomatch hh)
          refine w_call (ens_eq (num_nil _ _ _) ?_)
          refine w_gop rfl (fun _ => ?_) (fun hh => nomatch hh)
          refine w_mv_nif (evs' (gsn rfl gse)) ?_
          refine w_gcall rfl (fun _ => ?_) (fun hh => nomatch hh)
          refine w_call (ens_eq (num_nil _ _ _) ?_)
          refine w_gop rfl (fun _ => ?_) (fun hh => nomatch hh)
          refine w_ine rfl rfl (fun c4 => absurd rfl c4) (fun c4 => ?_)
          refine w_pick rfl (fun hh => nomatch hh) (fun _ => ?_)
          refine w_mv_bool rfl ?_
          refine w_kp ?_
          refine w_nil ?_
          refine w_cond (evs' gse) (fun hh => nomatch hh) (fun _ => ?_)
          refine w_skip ?_
          refine w_reg ?_
          refine w_mv_int (evs' (gsn rfl (gsn rfl (gsn rfl (gsn rfl (gsn rfl (gsn rfl (gsn rfl (gsn rfl (gsn rfl f_p13)))))))))) ?_
          refine w_add rfl rfl (wr64 (by omega) (by omega)) ?_
          refine w_mv_int rfl ?_
          refine w_kp ?_
          refine w_nil ?_
          have hly2 : (((ly ++ [(chF d3, max 0 (clipF g3 0 20), (now + clipF a3 0 10000) + waitF (min (clipF len 1 1073741824) m3) ppm)]).filter fun z => decide ((now + clipF a3 0 10000) < z.2.2)).length : Int) ≤ i + 1 := by have := List.length_filter_le (fun z : Ent => decide ((now + clipF a3 0 10000) < z.2.2)) (ly ++ [(chF d3, max 0 (clipF g3 0 20), (now + clipF a3 0 10000) + waitF (min (clipF len 1 1073741824) m3) ppm)]); rw [List.length_append, List.length_singleton] at this; omega
          exact ⟨kk - 1, by omega, i + 1, _, _, _, _, _, _, _, _, _, _, (gsn rfl (gsn rfl (gsn rfl (gsn rfl (gsn rfl (gsn rfl (gsn rfl (gsn rfl (gsn rfl (gsn rfl f_p2)))))))))), (gsn rfl (gsn rfl (gsn rfl (gsn rfl (gsn rfl (gsn rfl (gsn rfl (gsn rfl (gsn rfl (gsn rfl f_p7)))))))))), (gsn rfl (gsn rfl (gsn rfl (gsn rfl (gsn rfl (gsn rfl (gsn rfl (gsn rfl (gsn rfl (gsn rfl f_p9)))))))))), (gsn rfl (gsn rfl (gsn rfl (gsn rfl (gsn rfl (gsn rfl (gsn rfl gse))))))), (gsn rfl (gsn rfl (gsn rfl (gsn rfl (gsn rfl (gsn rfl gse)))))), gse, (by omega), (by omega), (by omega), (by omega), (by omega), (by omega), (by omega), (by omega), (by omega), (by omega), (hsame.step (by omega) _), (fun y hy => (List.mem_append.1 hy).elim (hch y) (fun q => ⟨d3 % 4, by omega, by omega, by rw [List.mem_singleton.1 q, chF_mod]⟩)), (by rw [List.length_append]; simp; omega), (hly2), (fun y hy => (List.mem_append.1 hy).elim (fun q => by have := hun y q; omega) (fun q => by rw [List.mem_singleton.1 q]; show (now + clipF a3 0 10000) + waitF (min (clipF len 1 1073741824) m3) ppm ≤ _; have := waitF_small (l := min (clipF len 1 1073741824) m3) (ppm := ppm) (by omega); omega)), hb_n1, lt_n1, hb_n2, lt_n2, S8, S16, A, nf_n1_S8, nf_n1_S16, nf_n1_A, nf_n2_S8, nf_n2_S16, nf_n2_A, dj_S8_S16, dj_S16_S8, dj_A_S8, dj_A_S16⟩
    ·
      refine w_kp ?_
      refine w_nil ?_
      refine w_cond (evs' gse) (fun hh => nomatch hh) (fun _ => ?_)
      refine w_exit ?_
      refine w_seq ?_
      refine w_reg ?_
      refine w_mv_ptr (evs' (gsn rfl f_p7)) ?_
      refine w_mv_int (evs' (gsn rfl f_p12)) ?_
      refine w_mv_int (evs' (gsn rfl f_p11)) ?_
      refine w_call (clear_ok _ _ _ n1 _ _ _ _ _ _ _ _ hb_n1 X nf_n1_X lt_n1 (by omega) (by omega) (fun h3 hq Sq kp3 => ?_))
      have hb_n2 := kp3.get hb_n2 lt_n2 (ni1 (by omega))
      have Y := Y.keep kp3 (nF1 nf_n1_Y)
      have A := A.keep kp3 (nF1 nf_n1_A)
      have lt_n1 := kp3.lt lt_n1
      have lt_n2 := kp3.lt lt_n2
      have hr : rd now T = now := by unfold rd; omega
      rw [hr] at hq ⊢
      have hb_n1 := hq
      have X := Sq
      obtain ⟨hsp1, hsp2, hsp3⟩ := clearF_spec (n := num) lx now
      have hAT : clearF num now lx ≤ 1200700000 := by rcases hsp3 with e | ⟨y, hy, _, e⟩; omega; have := hun y hy; omega
      refine w_mv_int rfl ?_
      refine w_kp ?_
      refine w_nil ?_
      refine w_seq ?_
      refine w_seq ?_
      refine w_reg ?_
      refine w_mv_int (evs' gse) ?_
      refine w_mv_int (evs' (gsn rfl (gsn rfl f_p11))) ?_
      refine w_lt rfl rfl (fun c5 => by omega) (fun c5 => ?_)
      refine w_mv_bool rfl ?_
      refine w_gop rfl (fun _ => ?_) (fun hh => nomatch hh)
      refine w_mv_ptr (evs' (gsn rfl (gsn rfl f_p9))) ?_
      refine w_gop rfl (fun _ => ?_) (fun hh => nomatch hh)
      refine w_mv_int (evs' (gsn rfl (gsn rfl f_p12))) ?_
      refine w_gop rfl (fun _ => ?_) (fun hh => nomatch hh)
      refine w_mv_int (evs' (gsn rfl (gsn rfl f_p11))) ?_
      refine w_gcall rfl (fun _ => ?_) (fun hh => nomatch hh)
      refine w_call (clear_ok _ _ _ n2 _ _ _ _ _ _ _ _ hb_n2 Y nf_n2_Y lt_n2 (by omega) (by omega) (fun h4 hq Sq kp4 => ?_))
      have hb_n1 := kp4.get hb_n1 lt_n1 (ni1 (by omega))
      have X := X.keep kp4 (nF1 nf_n2_X)
      have A := A.keep kp4 (nF1 nf_n2_A)
      have lt_n1 := kp4.lt lt_n1
      have lt_n2 := kp4.lt lt_n2
      have hr : rd now U = now := by unfold rd; omega
      rw [hr] at hq ⊢
      have hb_n2 := hq
      have Y := Sq
      rw [clearF_same hsame]
      refine w_gop rfl (fun _ => ?_) (fun hh => nomatch hh)
      refine w_mv_int (evs' gse) ?_
      refine w_gop rfl (fun _ => ?_) (fun hh => nomatch hh)
      refine w_ine rfl rfl (fun c6 => absurd rfl c6) (fun c6 => ?_)
      refine w_pick rfl (fun hh => nomatch hh) (fun _ => ?_)
      refine w_mv_bool rfl ?_
      refine w_kp ?_
      refine w_nil ?_
      refine w_cond (evs' gse) (fun hh => nomatch hh) (fun _ => ?_)
      refine w_skip ?_
      refine w_seq ?_
      refine w_reg ?_
      refine w_mv_bool rfl ?_
      refine w_kp ?_
      refine w_nil ?_
      refine w_seq ?_
      refine w_seq ?_
      refine w_reg ?_
      refine w_mv_int rfl ?_
      refine w_kp ?_
      refine w_nil ?_
      refine w_block ?_
      refine w_loop (fun kk fr hh => ∃ (c : Int) (sm : Bool) (T3 : Int), fr.get p7 = some (.ptr n1 0) ∧ fr.get p9 = some (.ptr n2 0) ∧ fr.get p11 = some (.int .i64 now) ∧ fr.get p12 = some (.int .i64 num) ∧ fr.get p19 = some (.int .i64 (clearF num now lx)) ∧ fr.get p20 = some (.bool sm) ∧ fr.get p21 = some (.int .u8 c) ∧ (0 ≤ c) ∧ (c + (kk : Int) = 4) ∧ (sm = true → ∃ q, 0 ≤ q ∧ q < c ∧ ∃ y ∈ lx, blocks (chF q) num (max now ((clearF num now lx) - 1)) y) ∧ (sm = false → ∀ q, 0 ≤ q → q < c → ∀ y ∈ lx, ¬ blocks (chF q) num (max now ((clearF num now lx) - 1)) y) ∧ (0 ≤ T3) ∧ (T3 ≤ (max now ((clearF num now lx) - 1))) ∧ (hh.get n1 = some (.cells [.int .i64 (clipF len 1 1073741824), .int .i64 ppm, .int .i64 T3, vx] false)) ∧ (n1.num < hh.next.num) ∧ (hh.get n2 = some (.cells [.int .i64 (clipF len 1 1073741824), .int .i64 ppm, .int .i64 now, vy] false)) ∧ (n2.num < hh.next.num) ∧ (Sl 3 hh vx FX (lx.map ge)) ∧ (Sl 3 hh vy FY (ly.map ge)) ∧ (n1 ∉ FX) ∧ (n1 ∉ FY) ∧ (n2 ∉ FX) ∧ (n2 ∉ FY) ∧ (∀ x ∈ FX, x ∉ FY) ∧ (∀ x ∈ FY, x ∉ FX)) (k := 4) (by omega) ⟨0, _, _, (gsn rfl (gsn rfl (gsn rfl (gsn rfl (gsn rfl f_p7))))), (gsn rfl (gsn rfl (gsn rfl (gsn rfl (gsn rfl f_p9))))), (gsn rfl (gsn rfl (gsn rfl (gsn rfl (gsn rfl f_p11))))), (gsn rfl (gsn rfl (gsn rfl (gsn rfl (gsn rfl f_p12))))), (gsn rfl (gsn rfl (gsn rfl gse))), (gsn rfl gse), gse, (by omega), (by omega), (fun e => nomatch e), (fun _ q q1 q2 => by omega), (by omega), (by omega), hb_n1, lt_n1, hb_n2, lt_n2, X, Y, nf_n1_X, nf_n1_Y, nf_n2_X, nf_n2_Y, dj_X_Y, dj_Y_X⟩ ?_
      rintro kk fr hh ⟨c, sm, T3, f_p7, f_p9, f_p11, f_p12, f_p19, f_p20, f_p21, hc0, hk, hsm1, hsm0, hT3, hT4, hb_n1, lt_n1, hb_n2, lt_n2, X, Y, nf_n1_X, nf_n1_Y, nf_n2_X, nf_n2_Y, dj_X_Y, dj_Y_X⟩
      cases sm
      ·
        refine w_seq ?_
        refine w_seq ?_
        refine w_reg ?_
        refine w_mv_int (evs' f_p21) ?_
        refine w_lt rfl rfl (fun c7 => ?_) (fun c7 => ?_)
        ·
          refine w_kp ?_
          refine w_nil ?_
          refine w_cond (evs' gse) (fun _ => ?_) (fun hh => nomatch hh)
          refine w_skip ?_
          refine w_seq ?_
          refine w_block ?_
          refine w_reg ?_
          refine w_mv_bool (evs' (gsn rfl f_p20)) ?_
          refine w_mv_bool rfl ?_
          refine w_gop rfl (fun _ => ?_) (fun hh => nomatch hh)
          refine w_mv_ptr (evs' (gsn rfl f_p7)) ?_
          refine w_gop rfl (fun _ => ?_) (fun hh => nomatch hh)
          refine w_mv_int (evs' (gsn rfl f_p21)) ?_
          refine w_gcall rfl (fun _ => ?_) (fun hh => nomatch hh)
          refine w_call (child_ok _ _ _ _ (by omega) (fun h5 kp5 => ?_))
          have hb_n1 := kp5.get hb_n1 lt_n1 ni0
          have hb_n2 := kp5.get hb_n2 lt_n2 ni0
          have X := X.keep kp5 nF0
          have Y := Y.keep kp5 nF0
          have lt_n1 := kp5.lt lt_n1
          have lt_n2 := kp5.lt lt_n2
          refine w_gop rfl (fun _ => ?_) (fun hh => nomatch hh)
          refine w_mv_int (evs' (gsn rfl f_p12)) ?_
          refine w_gop rfl (fun _ => ?_) (fun hh => nomatch hh)
          refine w_mv_int (evs' (gsn rfl f_p11)) ?_
          refine w_gop rfl (fun _ => ?_) (fun hh => nomatch hh)
          refine w_mv_int (evs' (gsn rfl f_p19)) ?_
          refine w_gop rfl (fun _ => ?_) (fun hh => nomatch hh)
          refine w_sub rfl rfl (wr64 (by omega) (by omega)) ?_
          refine w_gop rfl (fun _ => ?_) (fun hh => nomatch hh)
          refine w_mx2 rfl rfl ?_
          refine w_gcall rfl (fun _ => ?_) (fun hh => nomatch hh)
          refine w_call (free_ok _ _ _ n1 _ _ _ _ _ _ _ _ _ hb_n1 X nf_n1_X lt_n1 (by omega) (by omega) (fun h6 hfr6 hq Sq kp6 => ?_) (fun h6 hfr6 hq Sq kp6 => ?_))
          ·
            have hr : rd (max now ((clearF num now lx) - 1)) T3 = (max now ((clearF num now lx) - 1)) := by unfold rd; omega
            rw [hr] at hq hfr6
            have hb_n2 := kp6.get hb_n2 lt_n2 (ni1 (by omega))
            have Y := Y.keep kp6 (nF1 nf_n1_Y)
            have lt_n1 := kp6.lt lt_n1
            have lt_n2 := kp6.lt lt_n2
            have hb_n1 := hq
            have X := Sq
            refine w_gop rfl (fun _ => ?_) (fun hh => nomatch hh)
            refine w_not rfl ?_
            refine w_pick rfl (fun hh => nomatch hh) (fun _ => ?_)
            refine w_mv_bool rfl ?_
            refine w_mv_bool rfl ?_
            refine w_kp ?_
            refine w_nil ?_
            refine w_reg ?_
            refine w_mv_int (evs' (gsn rfl (gsn rfl f_p21))) ?_
            refine w_add rfl rfl (wrU8 (by omega) (by omega)) ?_
            refine w_mv_int rfl ?_
            refine w_kp ?_
            refine w_nil ?_
            exact ⟨kk - 1, by omega, c + 1, _, _, (gsn rfl (gsn rfl (gsn rfl f_p7))), (gsn rfl (gsn rfl (gsn rfl f_p9))), (gsn rfl (gsn rfl (gsn rfl f_p11))), (gsn rfl (gsn rfl (gsn rfl f_p12))), (gsn rfl (gsn rfl (gsn rfl f_p19))), (gsn rfl gse), gse, (by omega), (by omega), (fun e => nomatch e), (fun _ q q1 q2 y hy => if hqc : q = c then by rw [hqc]; exact hfr6 y hy else hsm0 rfl q q1 (by omega) y hy), (by omega), (by omega), hb_n1, lt_n1, hb_n2, lt_n2, X, Y, nf_n1_X, nf_n1_Y, nf_n2_X, nf_n2_Y, dj_X_Y, dj_Y_X⟩
          ·
            have hr : rd (max now ((clearF num now lx) - 1)) T3 = (max now ((clearF num now lx) - 1)) := by unfold rd; omega
            rw [hr] at hq hfr6
            have hb_n2 := kp6.get hb_n2 lt_n2 (ni1 (by omega))
            have Y := Y.keep kp6 (nF1 nf_n1_Y)
            have lt_n1 := kp6.lt lt_n1
            have lt_n2 := kp6.lt lt_n2
            have hb_n1 := hq
            have X := Sq
            refine w_gop rfl (fun _ => ?_) (fun hh => nomatch hh)
            refine w_not rfl ?_
            refine w_pick rfl (fun hh => nomatch hh) (fun _ => ?_)
            refine w_mv_bool rfl ?_
            refine w_mv_bool rfl ?_
            refine w_kp ?_
            refine w_nil ?_
            refine w_reg ?_
            refine w_mv_int (evs' (gsn rfl (gsn rfl f_p21))) ?_
            refine w_add rfl rfl (wrU8 (by omega) (by omega)) ?_
            refine w_mv_int rfl ?_
            refine w_kp ?_
            refine w_nil ?_
            exact ⟨kk - 1, by omega, c + 1, _, _, (gsn rfl (gsn rfl (gsn rfl f_p7))), (gsn rfl (gsn rfl (gsn rfl f_p9))), (gsn rfl (gsn rfl (gsn rfl f_p11))), (gsn rfl (gsn rfl (gsn rfl f_p12))), (gsn rfl (gsn rfl (gsn rfl f_p19))), (gsn rfl gse), gse, (by omega), (by omega), (fun _ => ⟨c, by omega, by omega, hfr6⟩), (fun e => nomatch e), (by omega), (by omega), hb_n1, lt_n1, hb_n2, lt_n2, X, Y, nf_n1_X, nf_n1_Y, nf_n2_X, nf_n2_Y, dj_X_Y, dj_Y_X⟩
        ·
          refine w_kp ?_
          refine w_nil ?_
          refine w_cond (evs' gse) (fun hh => nomatch hh) (fun _ => ?_)
          refine w_exit ?_
          refine w_seq ?_
          refine w_seq ?_
          refine w_reg ?_
          refine w_mv_bool (evs' (gsn rfl f_p20)) ?_
          refine w_mv_int (evs' (gsn rfl f_p19)) ?_
          refine w_mv_int (evs' (gsn rfl f_p11)) ?_
          have hgt : ¬ now < (clearF num now lx) := by
            intro hlt
            rcases hsp3 with e | ⟨y, hy, hn, e⟩
            · omega
            · obtain ⟨q, q1, q2, q3⟩ := hch y hy
              exact hsm0 rfl q q1 (by omega) y hy ⟨q3, hn, by omega⟩
          refine w_gt rfl rfl (fun c8 => absurd c8 hgt) (fun c8 => ?_)
          refine w_eqv (t' := false) rfl rfl rfl rfl ?_
          refine w_kp ?_
          refine w_nil ?_
          refine w_cond (evs' gse) (fun hh => nomatch hh) (fun _ => ?_)
          refine w_skip ?_
          refine w_seq ?_
          refine w_seq ?_
          refine w_reg ?_
          refine w_mv_int rfl ?_
          refine w_kp ?_
          refine w_nil ?_
          refine w_block ?_
          refine w_loop (fun kk fr hh => ∃ (c2 : Int) (T5 : Int) (U5 : Int), fr.get p7 = some (.ptr n1 0) ∧ fr.get p9 = some (.ptr n2 0) ∧ fr.get p12 = some (.int .i64 num) ∧ fr.get p19 = some (.int .i64 (clearF num now lx)) ∧ fr.get p22 = some (.int .u8 c2) ∧ (0 ≤ c2) ∧ (c2 + (kk : Int) = 4) ∧ (0 ≤ T5) ∧ (T5 ≤ (clearF num now lx)) ∧ (0 ≤ U5) ∧ (U5 ≤ (clearF num now lx)) ∧ (hh.get n1 = some (.cells [.int .i64 (clipF len 1 1073741824), .int .i64 ppm, .int .i64 T5, vx] false)) ∧ (n1.num < hh.next.num) ∧ (hh.get n2 = some (.cells [.int .i64 (clipF len 1 1073741824), .int .i64 ppm, .int .i64 U5, vy] false)) ∧ (n2.num < hh.next.num) ∧ (Sl 3 hh vx FX (lx.map ge)) ∧ (Sl 3 hh vy FY (ly.map ge)) ∧ (n1 ∉ FX) ∧ (n1 ∉ FY) ∧ (n2 ∉ FX) ∧ (n2 ∉ FY) ∧ (∀ x ∈ FX, x ∉ FY) ∧ (∀ x ∈ FY, x ∉ FX)) (k := 4) (by omega) ⟨0, _, _, (gsn rfl (gsn rfl (gsn rfl f_p7))), (gsn rfl (gsn rfl (gsn rfl f_p9))), (gsn rfl (gsn rfl (gsn rfl f_p12))), (gsn rfl (gsn rfl (gsn rfl f_p19))), gse, (by omega), (by omega), (by omega), (by omega), (by omega), (by omega), hb_n1, lt_n1, hb_n2, lt_n2, X, Y, nf_n1_X, nf_n1_Y, nf_n2_X, nf_n2_Y, dj_X_Y, dj_Y_X⟩ ?_
          rintro kk fr hh ⟨c2, T5, U5, f_p7, f_p9, f_p12, f_p19, f_p22, hc20, hk2, hT5, hT6, hU5, hU6, hb_n1, lt_n1, hb_n2, lt_n2, X, Y, nf_n1_X, nf_n1_Y, nf_n2_X, nf_n2_Y, dj_X_Y, dj_Y_X⟩
          refine w_seq ?_
          refine w_seq ?_
          refine w_reg ?_
          refine w_mv_int (evs' f_p22) ?_
          refine w_lt rfl rfl (fun c9 => ?_) (fun c9 => ?_)
          ·
            refine w_kp ?_
            refine w_nil ?_
            refine w_cond (evs' gse) (fun _ => ?_) (fun hh => nomatch hh)
            refine w_skip ?_
            refine w_seq ?_
            refine w_block ?_
            refine w_seq ?_
            refine w_reg ?_
            refine w_mv_ptr (evs' (gsn rfl f_p7)) ?_
            refine w_mv_int (evs' (gsn rfl f_p22)) ?_
            refine w_call (child_ok _ _ _ _ (by omega) (fun h5 kp5 => ?_))
            have hb_n1 := kp5.get hb_n1 lt_n1 ni0
            have hb_n2 := kp5.get hb_n2 lt_n2 ni0
            have X := X.keep kp5 nF0
            have Y := Y.keep kp5 nF0
            have lt_n1 := kp5.lt lt_n1
            have lt_n2 := kp5.lt lt_n2
            refine w_mv_int (evs' (gsn rfl f_p12)) ?_
            refine w_mv_int (evs' (gsn rfl f_p19)) ?_
            refine w_call (free_ok _ _ _ n1 _ _ _ _ _ _ _ _ _ hb_n1 X nf_n1_X lt_n1 (by omega) (by omega) (fun h6 hfr6 hq Sq kp6 => ?_) (fun h6 hfr6 hq Sq kp6 => ?_))
            ·
              have hr : rd (clearF num now lx) T5 = (clearF num now lx) := by unfold rd; omega
              rw [hr] at hq hfr6
              have hb_n2 := kp6.get hb_n2 lt_n2 (ni1 (by omega))
              have Y := Y.keep kp6 (nF1 nf_n1_Y)
              have lt_n1 := kp6.lt lt_n1
              have lt_n2 := kp6.lt lt_n2
              have hb_n1 := hq
              have X := Sq
              refine w_not rfl ?_
              refine w_mv_bool rfl ?_
              refine w_gop rfl (fun _ => ?_) (fun hh => nomatch hh)
              refine w_mv_ptr (evs' (gsn rfl f_p9)) ?_
              refine w_gop rfl (fun _ => ?_) (fun hh => nomatch hh)
              refine w_mv_int (evs' (gsn rfl f_p22)) ?_
              refine w_gcall rfl (fun _ => ?_) (fun hh => nomatch hh)
              refine w_call (child_ok _ _ _ _ (by omega) (fun h7 kp7 => ?_))
              have hb_n1 := kp7.get hb_n1 lt_n1 ni0
              have hb_n2 := kp7.get hb_n2 lt_n2 ni0
              have X := X.keep kp7 nF0
              have Y := Y.keep kp7 nF0
              have lt_n1 := kp7.lt lt_n1
              have lt_n2 := kp7.lt lt_n2
              refine w_gop rfl (fun _ => ?_) (fun hh => nomatch hh)
              refine w_mv_int (evs' (gsn rfl f_p12)) ?_
              refine w_gop rfl (fun _ => ?_) (fun hh => nomatch hh)
              refine w_mv_int (evs' (gsn rfl f_p19)) ?_
              refine w_gcall rfl (fun _ => ?_) (fun hh => nomatch hh)
              refine w_call (free_ok _ _ _ n2 _ _ _ _ _ _ _ _ _ hb_n2 Y nf_n2_Y lt_n2 (by omega) (by omega) (fun h8 hfr8 hq Sq kp8 => ?_) (fun h8 hfr8 hq Sq kp8 => ?_))
              ·
                have hr : rd (clearF num now lx) U5 = (clearF num now lx) := by unfold rd; omega
                rw [hr] at hq hfr8
                have hb_n1 := kp8.get hb_n1 lt_n1 (ni1 (by omega))
                have X := X.keep kp8 (nF1 nf_n2_X)
                have lt_n1 := kp8.lt lt_n1
                have lt_n2 := kp8.lt lt_n2
                have hb_n2 := hq
                have Y := Sq
                refine w_gop rfl (fun _ => ?_) (fun hh => nomatch hh)
                refine w_not rfl ?_
                refine w_pick rfl (fun hh => nomatch hh) (fun _ => ?_)
                refine w_mv_bool rfl ?_
                refine w_kp ?_
                refine w_nil ?_
                refine w_cond (evs' gse) (fun hh => nomatch hh) (fun _ => ?_)
                refine w_skip ?_
                refine w_reg ?_
                refine w_mv_int (evs' (gsn rfl (gsn rfl f_p22))) ?_
                refine w_add rfl rfl (wrU8 (by omega) (by omega)) ?_
                refine w_mv_int rfl ?_
                refine w_kp ?_
                refine w_nil ?_
                exact ⟨kk - 1, by omega, c2 + 1, _, _, (gsn rfl (gsn rfl (gsn rfl f_p7))), (gsn rfl (gsn rfl (gsn rfl f_p9))), (gsn rfl (gsn rfl (gsn rfl f_p12))), (gsn rfl (gsn rfl (gsn rfl f_p19))), gse, (by omega), (by omega), (by omega), (by omega), (by omega), (by omega), hb_n1, lt_n1, hb_n2, lt_n2, X, Y, nf_n1_X, nf_n1_Y, nf_n2_X, nf_n2_Y, dj_X_Y, dj_Y_X⟩
              ·
                have hr : rd (clearF num now lx) U5 = (clearF num now lx) := by unfold rd; omega
                rw [hr] at hq hfr8
                obtain ⟨y, hy, _, q2, q3⟩ := hfr8
                have hy := hsame.1 y hy
                have := hsp2 y hy q2
                exact absurd q3 (by omega)
            ·
              have hr : rd (clearF num now lx) T5 = (clearF num now lx) := by unfold rd; omega
              rw [hr] at hq hfr6
              obtain ⟨y, hy, _, q2, q3⟩ := hfr6
              have := hsp2 y hy q2
              exact absurd q3 (by omega)
          ·
            refine w_kp ?_
            refine w_nil ?_
            refine w_cond (evs' gse) (fun hh => nomatch hh) (fun _ => ?_)
            refine w_exit ?_
            refine w_seq ?_
            refine w_reg ?_
            refine w_mv_bool rfl ?_
            refine w_kp ?_
            refine w_nil ?_
            refine w_ret ?_
            refine ens_ret1 gse ?_
            exact rfl
      ·
        refine w_seq ?_
        refine w_seq ?_
        refine w_reg ?_
        refine w_mv_int (evs' f_p21) ?_
        refine w_lt rfl rfl (fun c10 => ?_) (fun c10 => ?_)
        ·
          refine w_kp ?_
          refine w_nil ?_
          refine w_cond (evs' gse) (fun _ => ?_) (fun hh => nomatch hh)
          refine w_skip ?_
          refine w_seq ?_
          refine w_block ?_
          refine w_reg ?_
          refine w_mv_bool (evs' (gsn rfl f_p20)) ?_
          refine w_mv_bool rfl ?_
          refine w_gop rfl (fun hh => nomatch hh) (fun _ => ?_)
          refine w_gop rfl (fun hh => nomatch hh) (fun _ => ?_)
          refine w_gcall rfl (fun hh => nomatch hh) (fun _ => ?_)
          refine w_gop rfl (fun hh => nomatch hh) (fun _ => ?_)
          refine w_gop rfl (fun hh => nomatch hh) (fun _ => ?_)
          refine w_gop rfl (fun hh => nomatch hh) (fun _ => ?_)
          refine w_gop rfl (fun hh => nomatch hh) (fun _ => ?_)
          refine w_gop rfl (fun hh => nomatch hh) (fun _ => ?_)
          refine w_gcall rfl (fun hh => nomatch hh) (fun _ => ?_)
          refine w_gop rfl (fun hh => nomatch hh) (fun _ => ?_)
          refine w_pick rfl (fun _ => ?_) (fun hh => nomatch hh)
          refine w_mv_bool rfl ?_
          refine w_mv_bool rfl ?_
          refine w_kp ?_
          refine w_nil ?_
          refine w_reg ?_
          refine w_mv_int (evs' (gsn rfl (gsn rfl f_p21))) ?_
          refine w_add rfl rfl (wrU8 (by omega) (by omega)) ?_
          refine w_mv_int rfl ?_
          refine w_kp ?_
          refine w_nil ?_
          exact ⟨kk - 1, by omega, c + 1, _, _, (gsn rfl (gsn rfl (gsn rfl f_p7))), (gsn rfl (gsn rfl (gsn rfl f_p9))), (gsn rfl (gsn rfl (gsn rfl f_p11))), (gsn rfl (gsn rfl (gsn rfl f_p12))), (gsn rfl (gsn rfl (gsn rfl f_p19))), (gsn rfl gse), gse, (by omega), (by omega), (fun _ => let ⟨q, q1, q2, q3⟩ := hsm1 rfl; ⟨q, q1, by omega, q3⟩), (fun e => nomatch e), (by omega), (by omega), hb_n1, lt_n1, hb_n2, lt_n2, X, Y, nf_n1_X, nf_n1_Y, nf_n2_X, nf_n2_Y, dj_X_Y, dj_Y_X⟩
        ·
          refine w_kp ?_
          refine w_nil ?_
          refine w_cond (evs' gse) (fun hh => nomatch hh) (fun _ => ?_)
          refine w_exit ?_
          refine w_seq ?_
          refine w_seq ?_
          refine w_reg ?_
          refine w_mv_bool (evs' (gsn rfl f_p20)) ?_
          refine w_mv_int (evs' (gsn rfl f_p19)) ?_
          refine w_mv_int (evs' (gsn rfl f_p11)) ?_
          have hgt : now < (clearF num now lx) := by obtain ⟨q, _, _, y, hy, _, q2, q3⟩ := hsm1 rfl; have := hsp2 y hy q2; omega
          refine w_gt rfl rfl (fun c11 => ?_) (fun c11 => absurd hgt c11)
          refine w_eqv (t' := false) rfl rfl rfl rfl ?_
          refine w_kp ?_
          refine w_nil ?_
          refine w_cond (evs' gse) (fun hh => nomatch hh) (fun _ => ?_)
          refine w_skip ?_
          refine w_seq ?_
          refine w_seq ?_
          refine w_reg ?_
          refine w_mv_int rfl ?_
          refine w_kp ?_
          refine w_nil ?_
          refine w_block ?_
          refine w_loop (fun kk fr hh => ∃ (c2 : Int) (T5 : Int) (U5 : Int), fr.get p7 = some (.ptr n1 0) ∧ fr.get p9 = some (.ptr n2 0) ∧ fr.get p12 = some (.int .i64 num) ∧ fr.get p19 = some (.int .i64 (clearF num now lx)) ∧ fr.get p22 = some (.int .u8 c2) ∧ (0 ≤ c2) ∧ (c2 + (kk : Int) = 4) ∧ (0 ≤ T5) ∧ (T5 ≤ (clearF num now lx)) ∧ (0 ≤ U5) ∧ (U5 ≤ (clearF num now lx)) ∧ (hh.get n1 = some (.cells [.int .i64 (clipF len 1 1073741824), .int .i64 ppm, .int .i64 T5, vx] false)) ∧ (n1.num < hh.next.num) ∧ (hh.get n2 = some (.cells [.int .i64 (clipF len 1 1073741824), .int .i64 ppm, .int .i64 U5, vy] false)) ∧ (n2.num < hh.next.num) ∧ (Sl 3 hh vx FX (lx.map ge)) ∧ (Sl 3 hh vy FY (ly.map ge)) ∧ (n1 ∉ FX) ∧ (n1 ∉ FY) ∧ (n2 ∉ FX) ∧ (n2 ∉ FY) ∧ (∀ x ∈ FX, x ∉ FY) ∧ (∀ x ∈ FY, x ∉ FX)) (k := 4) (by omega) ⟨0, _, _, (gsn rfl (gsn rfl (gsn rfl f_p7))), (gsn rfl (gsn rfl (gsn rfl f_p9))), (gsn rfl (gsn rfl (gsn rfl f_p12))), (gsn rfl (gsn rfl (gsn rfl f_p19))), gse, (by omega), (by omega), (by omega), (by omega), (by omega), (by omega), hb_n1, lt_n1, hb_n2, lt_n2, X, Y, nf_n1_X, nf_n1_Y, nf_n2_X, nf_n2_Y, dj_X_Y, dj_Y_X⟩ ?_
          rintro kk fr hh ⟨c2, T5, U5, f_p7, f_p9, f_p12, f_p19, f_p22, hc20, hk2, hT5, hT6, hU5, hU6, hb_n1, lt_n1, hb_n2, lt_n2, X, Y, nf_n1_X, nf_n1_Y, nf_n2_X, nf_n2_Y, dj_X_Y, dj_Y_X⟩
          refine w_seq ?_
          refine w_seq ?_
          refine w_reg ?_
          refine w_mv_int (evs' f_p22) ?_
          refine w_lt rfl rfl (fun c12 => ?_) (fun c12 => ?_)
          ·
            refine w_kp ?_
            refine w_nil ?_
            refine w_cond (evs' gse) (fun _ => ?_) (fun hh => nomatch hh)
            refine w_skip ?_
            refine w_seq ?_
            refine w_block ?_
            refine w_seq ?_
            refine w_reg ?_
            refine w_mv_ptr (evs' (gsn rfl f_p7)) ?_
            refine w_mv_int (evs' (gsn rfl f_p22)) ?_
            refine w_call (child_ok _ _ _ _ (by omega) (fun h5 kp5 => ?_))
            have hb_n1 := kp5.get hb_n1 lt_n1 ni0
            have hb_n2 := kp5.get hb_n2 lt_n2 ni0
            have X := X.keep kp5 nF0
            have Y := Y.keep kp5 nF0
            have lt_n1 := kp5.lt lt_n1
            have lt_n2 := kp5.lt lt_n2
            refine w_mv_int (evs' (gsn rfl f_p12)) ?_
            refine w_mv_int (evs' (gsn rfl f_p19)) ?_
            refine w_call (free_ok _ _ _ n1 _ _ _ _ _ _ _ _ _ hb_n1 X nf_n1_X lt_n1 (by omega) (by omega) (fun h6 hfr6 hq Sq kp6 => ?_) (fun h6 hfr6 hq Sq kp6 => ?_))
            ·
              have hr : rd (clearF num now lx) T5 = (clearF num now lx) := by unfold rd; omega
              rw [hr] at hq hfr6
              have hb_n2 := kp6.get hb_n2 lt_n2 (ni1 (by omega))
              have Y := Y.keep kp6 (nF1 nf_n1_Y)
              have lt_n1 := kp6.lt lt_n1
              have lt_n2 := kp6.lt lt_n2
              have hb_n1 := hq
              have X := Sq
              refine w_not rfl ?_
              refine w_mv_bool rfl ?_
              refine w_gop rfl (fun _ => ?_) (fun hh => nomatch hh)
              refine w_mv_ptr (evs' (gsn rfl f_p9)) ?_
              refine w_gop rfl (fun _ => ?_) (fun hh => nomatch hh)
              refine w_mv_int (evs' (gsn rfl f_p22)) ?_
              refine w_gcall rfl (fun _ => ?_) (fun hh => nomatch hh)
              refine w_call (child_ok _ _ _ _ (by omega) (fun h7 kp7 => ?_))
              have hb_n1 := kp7.get hb_n1 lt_n1 ni0
              have hb_n2 := kp7.get hb_n2 lt_n2 ni0
              have X := X.keep kp7 nF0
              have Y := Y.keep kp7 nF0
              have lt_n1 := kp7.lt lt_n1
              have lt_n2 := kp7.lt lt_n2
              refine w_gop rfl (fun _ => ?_) (fun hh => nomatch hh)
              refine w_mv_int (evs' (gsn rfl f_p12)) ?_
              refine w_gop rfl (fun _ => ?_) (fun hh => nomatch hh)
              refine w_mv_int (evs' (gsn rfl f_p19)) ?_
              refine w_gcall rfl (fun _ => ?_) (fun hh => nomatch hh)
              refine w_call (free_ok _ _ _ n2 _ _ _ _ _ _ _ _ _ hb_n2 Y nf_n2_Y lt_n2 (by omega) (by omega) (fun h8 hfr8 hq Sq kp8 => ?_) (fun h8 hfr8 hq Sq kp8 => ?_))
              ·
                have hr : rd (clearF num now lx) U5 = (clearF num now lx) := by unfold rd; omega
                rw [hr] at hq hfr8
                have hb_n1 := kp8.get hb_n1 lt_n1 (ni1 (by omega))
                have X := X.keep kp8 (nF1 nf_n2_X)
                have lt_n1 := kp8.lt lt_n1
                have lt_n2 := kp8.lt lt_n2
                have hb_n2 := hq
                have Y := Sq
                refine w_gop rfl (fun _ => ?_) (fun hh => nomatch hh)
                refine w_not rfl ?_
                refine w_pick rfl (fun hh => nomatch hh) (fun _ => ?_)
                refine w_mv_bool rfl ?_
                refine w_kp ?_
                refine w_nil ?_
                refine w_cond (evs' gse) (fun hh => nomatch hh) (fun _ => ?_)
                refine w_skip ?_
                refine w_reg ?_
                refine w_mv_int (evs' (gsn rfl (gsn rfl f_p22))) ?_
                refine w_add rfl rfl (wrU8 (by omega) (by omega)) ?_
                refine w_mv_int rfl ?_
                refine w_kp ?_
                refine w_nil ?_
                exact ⟨kk - 1, by omega, c2 + 1, _, _, (gsn rfl (gsn rfl (gsn rfl f_p7))), (gsn rfl (gsn rfl (gsn rfl f_p9))), (gsn rfl (gsn rfl (gsn rfl f_p12))), (gsn rfl (gsn rfl (gsn rfl f_p19))), gse, (by omega), (by omega), (by omega), (by omega), (by omega), (by omega), hb_n1, lt_n1, hb_n2, lt_n2, X, Y, nf_n1_X, nf_n1_Y, nf_n2_X, nf_n2_Y, dj_X_Y, dj_Y_X⟩
              ·
                have hr : rd (clearF num now lx) U5 = (clearF num now lx) := by unfold rd; omega
                rw [hr] at hq hfr8
                obtain ⟨y, hy, _, q2, q3⟩ := hfr8
                have hy := hsame.1 y hy
                have := hsp2 y hy q2
                exact absurd q3 (by omega)
            ·
              have hr : rd (clearF num now lx) T5 = (clearF num now lx) := by unfold rd; omega
              rw [hr] at hq hfr6
              obtain ⟨y, hy, _, q2, q3⟩ := hfr6
              have := hsp2 y hy q2
              exact absurd q3 (by omega)
          ·
            refine w_kp ?_
            refine w_nil ?_
            refine w_cond (evs' gse) (fun hh => nomatch hh) (fun _ => ?_)
            refine w_exit ?_
            refine w_seq ?_
            refine w_reg ?_
            refine w_mv_bool rfl ?_
            refine w_kp ?_
            refine w_nil ?_
            refine w_ret ?_
            refine ens_ret1 gse ?_
            exact rfl
end Go.Am
namespace Go.Proofs.Ytfgolglgogmniaa
open Go.ChangeShapes Go.WideShapes Go.ChangeAt Go.RowKit Go.Am

theorem own6 : ownKnob Try.prog.godebug = none := by kernel_rfl
theorem tab6 : tabOk Try.prog = true := by kernel_rfl
theorem ng6 : Try.prog.globals.size = 0 := by kernel_rfl
theorem elem_deed {xs : List (List V)} (h : ∀ y ∈ xs, Elem [.u8, .u8, .i64, .i64, .i64, .i64] y) : ∀ e ∈ xs, ∃ k c a b d g, e = [.int .u8 k, .int .u8 c, .int .i64 a, .int .i64 b, .int .i64 d, .int .i64 g] ∧ 0 ≤ c ∧ c < 256 := by
  intro e he
  obtain ⟨n0, y0, rfl, _, hy⟩ := (h e he).cons
  obtain ⟨n1, y1, rfl, hc, hy⟩ := hy.cons
  obtain ⟨n2, y2, rfl, _, hy⟩ := hy.cons
  obtain ⟨n3, y3, rfl, _, hy⟩ := hy.cons
  obtain ⟨n4, y4, rfl, _, hy⟩ := hy.cons
  obtain ⟨n5, y5, rfl, _, hy⟩ := hy.cons
  obtain rfl := hy.nil
  exact ⟨n0, n1, n2, n3, n4, n5, rfl, (wf_u8 hc).1, (wf_u8 hc).2⟩

set_option maxRecDepth 100000 in
theorem leaseFrees_lifted (os : Os) (started : os.Started) (H : Type) (enc : TypeId × Value → H) :
    ReturnsInHanded {} Try.checked os 6 .any (Rows.leaseFreesSpec.pre6 enc Try.prog Try.f6 Rows.leaseFreesRow.domain false) (Rows.leaseFreesSpec.post enc Try.prog Try.f6 false true false false) := by
  refine returnsInHanded_of_change (C := Try.checked) own6 started (by kernel_rfl) Try.func6
    (ChangeSpec.witness6 (enc := enc) (C := Try.checked) false ⟨#[], #[.int .i64 0, .int .i64 0, .slice none 0 0], []⟩ 8 (by kernel_rfl) (by kernel_rfl) (by kernel_rfl) (by kernel_rfl)) ?_
  intro W base args ds gs before hval0 hW hcnd _
  have hval : ∀ (j : Nat) t v, Try.f6.params[j]? = some t → args[j]? = some v → Value.okWide Try.prog W .any base t v := hval0
  have hW' := hW
  obtain ⟨p, q, hA0, hV, rfl, hfz, hnd⟩ := hW
  have hA : DataW.TrodAll enc Try.prog W 0 (fun _ => true) true Try.f6.params.toList args.toList ds p := hA0
  rw [Try.params6] at hA hval
  obtain ⟨v0, vs0, d0, ds0, q0, r0, hargs, rfl, rfl, h0, hA⟩ := trodAll_cons hA
  obtain ⟨v1, vs1, d1, ds1, q1, r1, rfl, rfl, rfl, h1, hA⟩ := trodAll_cons hA
  obtain ⟨v2, vs2, d2, ds2, q2, r2, rfl, rfl, rfl, h2, hA⟩ := trodAll_cons hA
  obtain ⟨rfl, rfl, rfl⟩ := trodAll_nil hA
  obtain rfl : args = #[v0, v1, v2] := by cases args; simp_all
  obtain ⟨n, rfl, rfl, rfl, wa⟩ := open_int (k := .i64) (t := 3) (by kernel_rfl) (hval 0 3 v0 rfl rfl) h0
  obtain ⟨m, rfl, rfl, rfl, wb⟩ := open_int (k := .i64) (t := 3) (by kernel_rfl) (hval 1 3 v1 rfl rfl) h1
  obtain ⟨l1, o1, f1, x1, b1, b2, b3, b4⟩ := arg_sl (P := Try.prog) (e := 66) (sh := [.u8, .u8, .i64, .i64, .i64, .i64]) (d := 3) (by kernel_rfl) (by kernel_rfl) (by kernel_rfl) (by decide) (hval 2 64 v2 rfl rfl) h2
  have hcf := cf_ok 100000 20
  rw [ng6] at hcf
  have g : Given 0 [l1] [o1] W := ⟨rfl, fun i l cs e1 e2 => by
    rcases i with _ | i
    · obtain rfl := Option.some.inj e1; exact b2 _ cs (Option.some.inj e2)
    · simp at e1⟩
  obtain ⟨h, aw⟩ := awake1 o1
  obtain ⟨FA, _, hA2⟩ := b3 h (P.of 0) (aw.get (P.of 0, o1) (by simp)) (aw.lt (P.of 0, o1) (by simp))
  have run := frees_ok 100000 (by decide) (H0 0 [o1]) h (f1 (P.of 0)) FA x1 n m aw.run aw.run2 hA2 (elem_deed b4)
  refine (law_calls (p := p6) hcf Try.func6 (by kernel_rfl) (of_decide_eq_true (by kernel_rfl)) g ?_ (AllTrue.of_ens run)).mono fun e W' ⟨he, ho⟩ => ?_
  · exact VRs.cons (.int _ _) (VRs.cons (.int _ _) (VRs.cons (b1 _ _ (io0_at 0 [l1] (i := 0) rfl)) (VRs.nil _)))
  subst he
  exact ⟨_, rfl, law_post tab6 (by kernel_rfl) (tb := 4) (by kernel_rfl) (by kernel_rfl) rfl rfl hW' ho⟩

theorem leaseFrees_holds : Rows.LeaseFreesSaid :=
  OpenClaim.holds_of_wide 6 Try.f6 rfl rfl rfl rfl rfl rfl rfl ⟨rfl, rfl, rfl, rfl, rfl⟩ rfl rfl rfl rfl rfl (by kernel_rfl) Try.func6 (by kernel_rfl)
    (of_decide_eq_true (by kernel_rfl)) (by unfold Func.isWrapper; first | (rw [if_pos (by decide +kernel)]; kernel_rfl) | (rw [if_neg (by decide +kernel)]; exact ⟨rfl, rfl⟩))
    (fun os started H enc _ => leaseFrees_lifted os started H enc)
end Go.Proofs.Ytfgolglgogmniaa
