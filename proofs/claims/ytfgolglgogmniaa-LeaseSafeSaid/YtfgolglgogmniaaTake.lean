/- Contracts of the holder's Take and of the clock's arithmetic. -/
import Derived.Test.YtfgolglgogmniaaHold
namespace Go.Am
set_option maxRecDepth 100000
set_option maxHeartbeats 8000000
def lim (n m : Int) : Int := max 0 (min n m)
theorem limited_ok (L d : Nat) (n m : Int) (h : H) {Q : V → H → Prop} (k : Q (.int .i64 (lim n m)) h) : Ens (call fnt L (d + 1) p31 [.int .i64 n, .int .i64 m] h) Q := by
  refine w_fn (af := af31) rfl rfl rfl ?_
  refine w_seq ?_
  refine w_reg ?_
  refine w_mv_int rfl ?_
  refine w_kp ?_
  refine w_nil ?_
  refine w_seq ?_
  refine w_reg ?_
  refine w_mv_int (evs' (gsn rfl rfl)) ?_
  refine w_mv_int (evs' (gsn rfl rfl)) ?_
  refine w_mn2 rfl rfl ?_
  refine w_mx2 rfl rfl ?_
  refine w_mv_int rfl ?_
  refine w_kp ?_
  refine w_nil ?_
  refine w_ret ?_
  refine ens_ret1 gse ?_
  exact k
def lenF (n : Int) : Int := if n < 1 then 0 else min n 1073741824
theorem length_ok (L d : Nat) (n : Int) (h : H) {Q : V → H → Prop} (k : Q (.int .i64 (lenF n)) h) : Ens (call fnt L (d + 1) p28 [.int .i64 n] h) Q := by
  refine w_fn (af := af28) rfl rfl rfl ?_
  refine w_seq ?_
  refine w_reg ?_
  refine w_mv_int rfl ?_
  refine w_kp ?_
  refine w_nil ?_
  refine w_seq ?_
  refine w_seq ?_
  refine w_reg ?_
  refine w_mv_int (evs' (gsn rfl rfl)) ?_
  refine w_lt rfl rfl (fun c1 => ?_) (fun c1 => ?_)
  ·
    refine w_kp ?_
    refine w_nil ?_
    refine w_cond (evs' gse) (fun _ => ?_) (fun hh => nomatch hh)
    refine w_seq ?_
    refine w_reg ?_
    refine w_mv_int rfl ?_
    refine w_kp ?_
    refine w_nil ?_
    refine w_ret ?_
    refine ens_ret1 gse ?_
    have e : lenF n = 0 := by unfold lenF; rw [if_pos c1]
    rw [e] at k
    exact k
  ·
    refine w_kp ?_
    refine w_nil ?_
    refine w_cond (evs' gse) (fun hh => nomatch hh) (fun _ => ?_)
    refine w_skip ?_
    refine w_seq ?_
    refine w_reg ?_
    refine w_mv_int (evs' (gsn rfl (gsn rfl rfl))) ?_
    refine w_mn2 rfl rfl ?_
    refine w_mv_int rfl ?_
    refine w_kp ?_
    refine w_nil ?_
    refine w_ret ?_
    refine ens_ret1 gse ?_
    have e : lenF n = min n 1073741824 := by unfold lenF; rw [if_neg c1]
    rw [e] at k
    exact k
theorem mul_range {a b A B : Int} (h1 : 0 ≤ a) (h2 : a ≤ A) (h3 : 0 ≤ b) (h4 : b ≤ B) : 0 ≤ a * b ∧ a * b ≤ A * B := ⟨Int.mul_nonneg h1 h3, Int.mul_le_mul h2 h4 h3 (Int.le_trans h1 h2)⟩
theorem lim_range {n m : Int} (h : 0 ≤ m) : 0 ≤ lim n m ∧ lim n m ≤ m := by unfold lim; omega
def holdF (n ppm : Int) : Int := lim n 1099511627776 * (1000000 - lim ppm 100000) / 1000000
theorem holdF_range {n ppm : Int} : 0 ≤ holdF n ppm ∧ holdF n ppm ≤ lim n 1099511627776 := by
  have h1 := lim_range (n := n) (m := 1099511627776) (by decide)
  have h2 := lim_range (n := ppm) (m := 100000) (by decide)
  unfold holdF
  have h3 : lim n 1099511627776 * (1000000 - lim ppm 100000) ≤ lim n 1099511627776 * 1000000 := Int.mul_le_mul_of_nonneg_left (by omega) h1.1
  have h4 : 0 ≤ lim n 1099511627776 * (1000000 - lim ppm 100000) := Int.mul_nonneg h1.1 (by omega)
  omega
theorem hold_ok (L d : Nat) (n ppm : Int) (h : H) {Q : V → H → Prop} (k : Q (.int .i64 (holdF n ppm)) h) : Ens (call fnt L (d + 2) p27 [.int .i64 n, .int .i64 ppm] h) Q := by
  have h1 := lim_range (n := n) (m := 1099511627776) (by decide)
  have h2 := lim_range (n := ppm) (m := 100000) (by decide)
  have h3 := mul_range h1.1 h1.2 (b := 1000000 - lim ppm 100000) (B := 1000000) (by omega) (by omega)
  refine w_fn (af := af27) rfl rfl rfl ?_
  refine w_seq ?_
  refine w_reg ?_
  refine w_mv_int rfl ?_
  refine w_kp ?_
  refine w_nil ?_
  refine w_seq ?_
  refine w_reg ?_
  refine w_mv_int (evs' (gsn rfl rfl)) ?_
  refine w_call (limited_ok _ _ _ _ _ ?_)
  refine w_mv_int (evs' (gsn rfl rfl)) ?_
  refine w_call (limited_ok _ _ _ _ _ ?_)
  refine w_sub rfl rfl (wr64 (by omega) (by omega)) ?_
  refine w_mul rfl rfl (wr64 (by omega) (by omega)) ?_
  refine w_quop rfl rfl (by omega) (by omega) (wr64 (by omega) (by omega)) ?_
  refine w_mv_int rfl ?_
  refine w_kp ?_
  refine w_nil ?_
  refine w_ret ?_
  refine ens_ret1 gse ?_
  exact k
theorem take_ok (L d : Nat) (h : H) (b : P) (ppm now0 gr now ser num len : Int) (vs vl : V) (FS FL : List P) (xs : List (List V)) (lea : List (Int × Int)) {Q : V → H → Prop}
    (hb_b : h.get b = some (.cells [.int .i64 ppm, .int .i64 now0, .int .i64 gr, vs, vl] false)) (S : Sl 1 h vs FS xs) (Z : Sl 2 h vl FL (lea.map le)) (nf_b_S : b ∉ FS) (nf_b_Z : b ∉ FL) (dj_S_Z : ∀ x ∈ FS, x ∉ FL) (dj_Z_S : ∀ x ∈ FL, x ∉ FS) (lt_b : b.num < h.next.num)
    (hu : ∀ e ∈ xs, ∃ s, e = [.int .i64 s]) (hxs : xs.length ≤ 1000) (hls : lea.length ≤ 16) (hL : 1001 ≤ L) (hs1 : -4611686018427387904 ≤ ser) (hs2 : ser ≤ 4611686018427387904)
    (k : ∀ (h' : H) (t : Bool) (vl' : V) (F' : List P) (lea' : List (Int × Int)), h'.get b = some (.cells [.int .i64 ppm, .int .i64 (rd now now0), .int .i64 gr, vs, vl'] false) → Sl 1 h' vs FS xs → Sl 2 h' vl' F' (lea'.map le) → Keep h h' [b] → (∀ c ∈ F', c ∈ FL ∨ h.next.num ≤ c.num) → lea'.length ≤ 16 →
      (∀ y ∈ lea', y ∈ lea ∨ (y = (max 0 num, ser - 1 + holdF (lenF len) ppm) ∧ [.int .i64 ser] ∈ xs)) → Q (.bool t) h') :
    Ens (call fnt L (d + 3) p11 [.ptr b 0, .agg [.int .i64 ser, .int .i64 num, .int .i64 len], .int .i64 now] h) Q := by
  have hlen : (lea.map le).length = lea.length := List.length_map _
  have hho := holdF_range (n := lenF len) (ppm := ppm)
  have hli := lim_range (n := lenF len) (m := 1099511627776) (by decide)
  refine w_fn (af := af11) rfl rfl rfl ?_
  refine w_seq ?_
  refine w_reg ?_
  refine m_box (evs' rfl) rfl (fun n1 h1 hb_n1 kp1 nn1 hn1 => ?_)
  have nf_n1_S := S.new nn1
  have nf_n1_Z := Z.new nn1
  have hb_b := kp1.get hb_b lt_b ni0
  have S := S.keep kp1 nF0
  have Z := Z.keep kp1 nF0
  have lt_b := kp1.lt lt_b
  have lt_n1 : n1.num < h1.next.num := by omega
  refine w_kp ?_
  refine w_mv_bool rfl ?_
  refine w_kp ?_
  refine w_nil ?_
  refine w_seq ?_
  refine w_seq ?_
  refine w_reg ?_
  refine w_mv_ptr (evs' (gsn rfl (gsn rfl rfl))) ?_
  refine w_eqv (t' := false) rfl rfl rfl rfl ?_
  refine w_kp ?_
  refine w_nil ?_
  refine w_cond (evs' gse) (fun hh => nomatch hh) (fun _ => ?_)
  refine w_skip ?_
  refine w_seq ?_
  refine w_reg ?_
  refine w_mv_ptr (evs' (gsn rfl (gsn rfl (gsn rfl rfl)))) ?_
  refine w_mv_int (evs' (gsn rfl (gsn rfl (gsn rfl rfl)))) ?_
  refine w_mv_ptr (evs' (gsn rfl (gsn rfl (gsn rfl rfl)))) ?_
  refine w_nck rfl ?_
  refine w_fa rfl ?_
  refine w_ld rfl hb_b rfl ?_
  refine w_call (reading_ok _ _ _ _ _ ?_)
  refine w_nck rfl ?_
  refine w_fa rfl ?_
  refine m_st_int hb_b rfl rfl rfl (fun h2 hq kp2 => ?_)
  have hb_n1 := kp2.get hb_n1 lt_n1 (ni1 (by omega))
  have S := S.keep kp2 (nF1 nf_b_S)
  have Z := Z.keep kp2 (nF1 nf_b_Z)
  have lt_b := kp2.lt lt_b
  have lt_n1 := kp2.lt lt_n1
  have hb_b := hq
  refine w_nil ?_
  refine w_seq ?_
  refine w_reg ?_
  refine w_mv_bool rfl ?_
  refine w_kp ?_
  refine w_nil ?_
  refine w_seq ?_
  refine w_seq ?_
  refine w_reg ?_
  refine w_mv_ptr (evs' (gsn rfl (gsn rfl (gsn rfl (gsn rfl rfl))))) ?_
  refine w_nck rfl ?_
  refine w_fa rfl ?_
  refine w_ld rfl hb_b rfl ?_
  refine w_kp ?_
  refine w_sl_len S rfl ?_
  refine w_kp ?_
  refine w_mv_int rfl ?_
  refine w_kp ?_
  refine w_nil ?_
  refine w_block ?_
  refine w_loop (fun kk fr hh => ∃ (i : Int) (kn : Bool), fr.get p0 = some (.ptr b 0) ∧ fr.get p2 = some (.int .i64 now) ∧ fr.get p4 = some (.ptr n1 0) ∧ fr.get p6 = some (.bool false) ∧ fr.get p7 = some (.bool kn) ∧ fr.get p31 = some (vs) ∧ fr.get p32 = some (.int .i64 (xs.length : Int)) ∧ fr.get p33 = some (.int .i64 i) ∧ (0 ≤ i) ∧ (i + (kk : Int) = xs.length) ∧ (kn = true → [.int .i64 ser] ∈ xs) ∧ (hh = h2)) (k := xs.length) (by omega) ⟨0, _, (gsn rfl (gsn rfl (gsn rfl (gsn rfl (gsn rfl (gsn rfl (gsn rfl rfl))))))), (gsn rfl (gsn rfl (gsn rfl (gsn rfl (gsn rfl (gsn rfl (gsn rfl rfl))))))), (gsn rfl (gsn rfl (gsn rfl (gsn rfl (gsn rfl (gsn rfl gse)))))), (gsn rfl (gsn rfl (gsn rfl (gsn rfl (gsn rfl gse))))), (gsn rfl (gsn rfl (gsn rfl gse))), (gsn rfl (gsn rfl gse)), (gsn rfl gse), gse, (by omega), (by omega), (fun hh => nomatch hh), (rfl)⟩ ?_
  rintro kk fr hh ⟨i, kn, f_p0, f_p2, f_p4, f_p6, f_p7, f_p31, f_p32, f_p33, hi, hk, hkn, rfl⟩
  cases kn
  ·
    refine w_seq ?_
    refine w_reg ?_
    refine w_lt (evs' f_p33) (evs' f_p32) (fun c1 => ?_) (fun c1 => ?_)
    ·
      refine w_kp ?_
      refine w_nil ?_
      refine w_seq ?_
      refine w_cond (evs' gse) (fun _ => ?_) (fun hh => nomatch hh)
      refine w_skip ?_
      refine w_seq ?_
      refine w_block ?_
      refine w_seq ?_
      refine w_reg ?_
      refine w_sl_ix S (evs' (gsn rfl f_p31)) (evs' (gsn rfl f_p33)) (by omega) (by omega) (fun s3 o3 cs3 e3 hs3 he3 ht3 hf3 => ?_)
      obtain ⟨x3, rfl⟩ := hu _ (List.mem_of_getElem? he3)
      refine w_ld rfl hs3 (takeN_nth (j := 0) ht3 rfl) ?_
      refine w_mv_int rfl ?_
      refine w_kp ?_
      refine w_nil ?_
      refine w_reg ?_
      refine w_mv_bool (evs' (gsn rfl (gsn rfl f_p7))) ?_
      refine w_mv_bool rfl ?_
      refine w_gop rfl (fun _ => ?_) (fun hh => nomatch hh)
      refine w_mv_int (evs' gse) ?_
      refine w_gop rfl (fun _ => ?_) (fun hh => nomatch hh)
      refine w_fa (evs' (gsn rfl (gsn rfl f_p4))) ?_
      refine w_gop rfl (fun _ => ?_) (fun hh => nomatch hh)
      refine w_ld rfl hb_n1 rfl ?_
      refine w_gop rfl (fun _ => ?_) (fun hh => nomatch hh)
      refine w_ieq rfl rfl (fun c2 => ?_) (fun c2 => ?_)
      ·
        refine w_pick rfl (fun hh => nomatch hh) (fun _ => ?_)
        refine w_mv_bool rfl ?_
        refine w_mv_bool rfl ?_
        refine w_kp ?_
        refine w_nil ?_
        refine w_reg ?_
        refine w_add (evs' (gsn rfl (gsn rfl (gsn rfl f_p33)))) rfl (wr64 (by omega) (by omega)) ?_
        refine w_mv_int rfl ?_
        refine w_kp ?_
        refine w_nil ?_
        exact ⟨kk - 1, by omega, i + 1, _, (gsn rfl (gsn rfl (gsn rfl (gsn rfl f_p0)))), (gsn rfl (gsn rfl (gsn rfl (gsn rfl f_p2)))), (gsn rfl (gsn rfl (gsn rfl (gsn rfl f_p4)))), (gsn rfl (gsn rfl (gsn rfl (gsn rfl f_p6)))), (gsn rfl gse), (gsn rfl (gsn rfl (gsn rfl (gsn rfl f_p31)))), (gsn rfl (gsn rfl (gsn rfl (gsn rfl f_p32)))), gse, (by omega), (by omega), (fun _ => by rw [← c2]; exact List.mem_of_getElem? he3), (rfl)⟩
      ·
        refine w_pick rfl (fun hh => nomatch hh) (fun _ => ?_)
        refine w_mv_bool rfl ?_
        refine w_mv_bool rfl ?_
        refine w_kp ?_
        refine w_nil ?_
        refine w_reg ?_
        refine w_add (evs' (gsn rfl (gsn rfl (gsn rfl f_p33)))) rfl (wr64 (by omega) (by omega)) ?_
        refine w_mv_int rfl ?_
        refine w_kp ?_
        refine w_nil ?_
        exact ⟨kk - 1, by omega, i + 1, _, (gsn rfl (gsn rfl (gsn rfl (gsn rfl f_p0)))), (gsn rfl (gsn rfl (gsn rfl (gsn rfl f_p2)))), (gsn rfl (gsn rfl (gsn rfl (gsn rfl f_p4)))), (gsn rfl (gsn rfl (gsn rfl (gsn rfl f_p6)))), (gsn rfl gse), (gsn rfl (gsn rfl (gsn rfl (gsn rfl f_p31)))), (gsn rfl (gsn rfl (gsn rfl (gsn rfl f_p32)))), gse, (by omega), (by omega), (fun hh => nomatch hh), (rfl)⟩
    ·
      refine w_kp ?_
      refine w_nil ?_
      refine w_seq ?_
      refine w_cond (evs' gse) (fun hh => nomatch hh) (fun _ => ?_)
      refine w_exit ?_
      refine w_seq ?_
      refine w_seq ?_
      refine w_reg ?_
      refine w_mv_bool (evs' (gsn rfl f_p7)) ?_
      refine w_not rfl ?_
      refine w_kp ?_
      refine w_nil ?_
      refine w_cond (evs' gse) (fun _ => ?_) (fun hh => nomatch hh)
      refine w_seq ?_
      refine w_reg ?_
      refine w_mv_bool rfl ?_
      refine w_kp ?_
      refine w_nil ?_
      refine w_ret ?_
      refine ens_ret1 gse ?_
      exact (k _ _ _ _ lea hb_b S Z (((Keep.refl h [b]).tr0 kp1).trb kp2 (by simp)) (fun c hc => .inl hc) hls (fun y hy => .inl hy))
  ·
    refine w_seq ?_
    refine w_reg ?_
    refine w_lt (evs' f_p33) (evs' f_p32) (fun c3 => ?_) (fun c3 => ?_)
    ·
      refine w_kp ?_
      refine w_nil ?_
      refine w_seq ?_
      refine w_cond (evs' gse) (fun _ => ?_) (fun hh => nomatch hh)
      refine w_skip ?_
      refine w_seq ?_
      refine w_block ?_
      refine w_seq ?_
      refine w_reg ?_
      refine w_sl_ix S (evs' (gsn rfl f_p31)) (evs' (gsn rfl f_p33)) (by omega) (by omega) (fun s3 o3 cs3 e3 hs3 he3 ht3 hf3 => ?_)
      obtain ⟨x3, rfl⟩ := hu _ (List.mem_of_getElem? he3)
      refine w_ld rfl hs3 (takeN_nth (j := 0) ht3 rfl) ?_
      refine w_mv_int rfl ?_
      refine w_kp ?_
      refine w_nil ?_
      refine w_reg ?_
      refine w_mv_bool (evs' (gsn rfl (gsn rfl f_p7))) ?_
      refine w_mv_bool rfl ?_
      refine w_gop rfl (fun hh => nomatch hh) (fun _ => ?_)
      refine w_gop rfl (fun hh => nomatch hh) (fun _ => ?_)
      refine w_gop rfl (fun hh => nomatch hh) (fun _ => ?_)
      refine w_gop rfl (fun hh => nomatch hh) (fun _ => ?_)
      refine w_pick rfl (fun _ => ?_) (fun hh => nomatch hh)
      refine w_mv_bool rfl ?_
      refine w_mv_bool rfl ?_
      refine w_kp ?_
      refine w_nil ?_
      refine w_reg ?_
      refine w_add (evs' (gsn rfl (gsn rfl (gsn rfl f_p33)))) rfl (wr64 (by omega) (by omega)) ?_
      refine w_mv_int rfl ?_
      refine w_kp ?_
      refine w_nil ?_
      exact ⟨kk - 1, by omega, i + 1, _, (gsn rfl (gsn rfl (gsn rfl (gsn rfl f_p0)))), (gsn rfl (gsn rfl (gsn rfl (gsn rfl f_p2)))), (gsn rfl (gsn rfl (gsn rfl (gsn rfl f_p4)))), (gsn rfl (gsn rfl (gsn rfl (gsn rfl f_p6)))), (gsn rfl gse), (gsn rfl (gsn rfl (gsn rfl (gsn rfl f_p31)))), (gsn rfl (gsn rfl (gsn rfl (gsn rfl f_p32)))), gse, (by omega), (by omega), (fun _ => hkn rfl), (rfl)⟩
    ·
      refine w_kp ?_
      refine w_nil ?_
      refine w_seq ?_
      refine w_cond (evs' gse) (fun hh => nomatch hh) (fun _ => ?_)
      refine w_exit ?_
      refine w_seq ?_
      refine w_seq ?_
      refine w_reg ?_
      refine w_mv_bool (evs' (gsn rfl f_p7)) ?_
      refine w_not rfl ?_
      refine w_kp ?_
      refine w_nil ?_
      refine w_cond (evs' gse) (fun hh => nomatch hh) (fun _ => ?_)
      refine w_skip ?_
      refine w_seq ?_
      refine w_reg ?_
      refine w_fa (evs' (gsn rfl (gsn rfl f_p4))) ?_
      refine w_ld rfl hb_n1 rfl ?_
      refine w_mx2 rfl rfl ?_
      refine w_fa (evs' (gsn rfl (gsn rfl f_p4))) ?_
      refine w_ld rfl hb_n1 rfl ?_
      refine w_sub rfl rfl (wr64 (by omega) (by omega)) ?_
      refine w_fa (evs' (gsn rfl (gsn rfl f_p4))) ?_
      refine w_ld rfl hb_n1 rfl ?_
      refine w_mv_ptr (evs' (gsn rfl (gsn rfl f_p0))) ?_
      refine w_nck rfl ?_
      refine w_fa rfl ?_
      refine w_ld rfl hb_b rfl ?_
      refine m_name (fun n3 h3 hb_n3 kp3 nn3 hn3 => ?_)
      have nf_n3_S := S.new nn3
      have nf_n3_Z := Z.new nn3
      have hb_b := kp3.get hb_b lt_b ni0
      have hb_n1 := kp3.get hb_n1 lt_n1 ni0
      have S := S.keep kp3 nF0
      have Z := Z.keep kp3 nF0
      have lt_b := kp3.lt lt_b
      have lt_n1 := kp3.lt lt_n1
      have lt_n3 : n3.num < h3.next.num := by omega
      refine w_call (length_ok _ _ _ _ ?_)
      refine w_re_ld rfl hb_b rfl rfl rfl (V.beq_int _ _) ?_
      refine w_re_ld rfl hb_n1 rfl rfl rfl (V.beq_int _ _) ?_
      refine w_re_ld rfl hb_n1 rfl rfl rfl (V.beq_int _ _) ?_
      refine w_call (hold_ok _ _ _ _ _ ?_)
      refine w_re_ld rfl hb_n1 rfl rfl rfl (V.beq_int _ _) ?_
      refine w_re_ld rfl hb_n1 rfl rfl rfl (V.beq_int _ _) ?_
      refine w_add rfl rfl (wr64 (by omega) (by omega)) ?_
      refine w_eq (v := .agg [.int .i64 (max 0 num), .int .i64 (ser - 1 + holdF (lenF len) ppm)]) rfl ?_
      refine m_init hb_n3 rfl (fun h4 hq kp4 => ?_)
      have hb_b := kp4.get hb_b lt_b (ni1 (by omega))
      have hb_n1 := kp4.get hb_n1 lt_n1 (ni1 (by omega))
      have S := S.keep kp4 (nF1 nf_n3_S)
      have Z := Z.keep kp4 (nF1 nf_n3_Z)
      have lt_b := kp4.lt lt_b
      have lt_n1 := kp4.lt lt_n1
      have lt_n3 := kp4.lt lt_n3
      have hb_n3 := hq
      refine m_st_agg hb_n3 rfl rfl rfl rfl (fun h5 hq kp5 => ?_)
      have hb_b := kp5.get hb_b lt_b (ni1 (by omega))
      have hb_n1 := kp5.get hb_n1 lt_n1 (ni1 (by omega))
      have S := S.keep kp5 (nF1 nf_n3_S)
      have Z := Z.keep kp5 (nF1 nf_n3_Z)
      have lt_b := kp5.lt lt_b
      have lt_n1 := kp5.lt lt_n1
      have lt_n3 := kp5.lt lt_n3
      have hb_n3 := hq
      refine w_slot_ptr rfl ?_
      refine w_nil ?_
      refine w_seq ?_
      refine w_seq ?_
      refine w_reg ?_
      refine w_fa (evs' gse) ?_
      refine w_ld rfl hb_n3 rfl ?_
      refine w_mv_ptr (evs' (gsn rfl (gsn rfl (gsn rfl f_p0)))) ?_
      refine w_nck rfl ?_
      refine w_fa rfl ?_
      refine w_ld rfl hb_b rfl ?_
      refine w_le rfl rfl (fun c4 => ?_) (fun c4 => ?_)
      ·
        refine w_slot (v := .bool true) rfl ?_
        refine w_nil ?_
        refine w_cond (evs' gse) (fun _ => ?_) (fun hh => nomatch hh)
        refine w_seq ?_
        refine w_reg ?_
        refine w_mv_bool rfl ?_
        refine w_kp ?_
        refine w_nil ?_
        refine w_ret ?_
        refine ens_ret1 gse ?_
        exact (k _ _ _ _ lea hb_b S Z ((((((Keep.refl h [b]).tr0 kp1).trb kp2 (by simp)).tr0 kp3).trn kp4 (Nat.le_trans (((Keep.refl h [b]).tr0 kp1).trb kp2 (by simp)).1 (Nat.le_of_eq nn3.symm))).trn kp5 (Nat.le_trans (((Keep.refl h [b]).tr0 kp1).trb kp2 (by simp)).1 (Nat.le_of_eq nn3.symm))) (fun c hc => .inl hc) hls (fun y hy => .inl hy))
      ·
        refine w_slot (v := .bool false) rfl ?_
        refine w_nil ?_
        refine w_cond (evs' gse) (fun hh => nomatch hh) (fun _ => ?_)
        refine w_skip ?_
        refine w_seq ?_
        refine w_reg ?_
        refine w_mv_nilsl rfl ?_
        refine w_kp ?_
        refine w_nil ?_
        refine w_seq ?_
        refine w_seq ?_
        refine w_reg ?_
        refine w_mv_ptr (evs' (gsn rfl (gsn rfl (gsn rfl (gsn rfl (gsn rfl f_p0)))))) ?_
        refine w_nck rfl ?_
        refine w_fa rfl ?_
        refine w_ld rfl hb_b rfl ?_
        refine w_kp ?_
        refine w_sl_len Z rfl ?_
        refine w_kp ?_
        refine w_mv_int rfl ?_
        refine w_kp ?_
        refine w_nil ?_
        refine w_block ?_
        have R : Sl 2 h5 .nilsl [] (([] : List (Int × Int)).map le) := Sl.nilsl 2 _
        have nf_b_R : b ∉ ([] : List P) := ni0
        have nf_n3_R : n3 ∉ ([] : List P) := ni0
        have dj_S_R : ∀ x ∈ FS, x ∉ ([] : List P) := nF0
        have dj_Z_R : ∀ x ∈ FL, x ∉ ([] : List P) := nF0
        have dj_R_S : ∀ x ∈ ([] : List P), x ∉ FS := fun x hx => nomatch hx
        have dj_R_Z : ∀ x ∈ ([] : List P), x ∉ FL := fun x hx => nomatch hx
        refine w_loop (fun kk fr hh => ∃ (i : Int) (vr : V) (FR : List P) (rl : List (Int × Int)), fr.get p0 = some (.ptr b 0) ∧ fr.get p6 = some (.bool false) ∧ fr.get p10 = some (.ptr n3 0) ∧ fr.get p11 = some (vr) ∧ fr.get p73 = some (vl) ∧ fr.get p74 = some (.int .i64 ((lea.map le).length : Int)) ∧ fr.get p75 = some (.int .i64 i) ∧ (0 ≤ i) ∧ (i + (kk : Int) = lea.length) ∧ (Keep h hh [b]) ∧ ((rl.length : Int) ≤ i) ∧ (∀ y ∈ rl, y ∈ lea) ∧ (∀ c ∈ FR, h.next.num ≤ c.num) ∧ (hh.get b = some (.cells [.int .i64 ppm, .int .i64 (rd now now0), .int .i64 gr, vs, vl] false)) ∧ (b.num < hh.next.num) ∧ (hh.get n3 = some (.cells [.int .i64 (max 0 num), .int .i64 (ser - 1 + holdF (lenF len) ppm)] false)) ∧ (n3.num < hh.next.num) ∧ (Sl 1 hh vs FS xs) ∧ (Sl 2 hh vl FL (lea.map le)) ∧ (Sl 2 hh vr FR (rl.map le)) ∧ (b ∉ FS) ∧ (b ∉ FL) ∧ (b ∉ FR) ∧ (n3 ∉ FS) ∧ (n3 ∉ FL) ∧ (n3 ∉ FR) ∧ (∀ x ∈ FS, x ∉ FL) ∧ (∀ x ∈ FS, x ∉ FR) ∧ (∀ x ∈ FL, x ∉ FS) ∧ (∀ x ∈ FL, x ∉ FR) ∧ (∀ x ∈ FR, x ∉ FS) ∧ (∀ x ∈ FR, x ∉ FL)) (k := lea.length) (by omega) ⟨0, .nilsl, [], [], (gsn rfl (gsn rfl (gsn rfl (gsn rfl (gsn rfl (gsn rfl (gsn rfl (gsn rfl f_p0)))))))), (gsn rfl (gsn rfl (gsn rfl (gsn rfl (gsn rfl (gsn rfl (gsn rfl (gsn rfl f_p6)))))))), (gsn rfl (gsn rfl (gsn rfl (gsn rfl (gsn rfl gse))))), (gsn rfl (gsn rfl (gsn rfl gse))), (gsn rfl (gsn rfl gse)), (gsn rfl gse), gse, (by omega), (by omega), (((((((Keep.refl h [b]).tr0 kp1).trb kp2 (by simp)).tr0 kp3).trn kp4 (Nat.le_trans (((Keep.refl h [b]).tr0 kp1).trb kp2 (by simp)).1 (Nat.le_of_eq nn3.symm))).trn kp5 (Nat.le_trans (((Keep.refl h [b]).tr0 kp1).trb kp2 (by simp)).1 (Nat.le_of_eq nn3.symm)))), (by simp), (fun y hy => nomatch hy), (fun c hc => nomatch hc), hb_b, lt_b, hb_n3, lt_n3, S, Z, R, nf_b_S, nf_b_Z, nf_b_R, nf_n3_S, nf_n3_Z, nf_n3_R, dj_S_Z, dj_S_R, dj_Z_S, dj_Z_R, dj_R_S, dj_R_Z⟩ ?_
        rintro kk fr hh ⟨i, vr, FR, rl, f_p0, f_p6, f_p10, f_p11, f_p73, f_p74, f_p75, hi, hk, kp0, hrl, hrm, hRf, hb_b, lt_b, hb_n3, lt_n3, S, Z, R, nf_b_S, nf_b_Z, nf_b_R, nf_n3_S, nf_n3_Z, nf_n3_R, dj_S_Z, dj_S_R, dj_Z_S, dj_Z_R, dj_R_S, dj_R_Z⟩
        refine w_seq ?_
        refine w_reg ?_
        refine w_lt (evs' f_p75) (evs' f_p74) (fun c5 => ?_) (fun c5 => ?_)
        ·
          refine w_kp ?_
          refine w_nil ?_
          refine w_seq ?_
          refine w_cond (evs' gse) (fun _ => ?_) (fun hh => nomatch hh)
          refine w_skip ?_
          refine w_seq ?_
          refine w_block ?_
          refine w_seq ?_
          refine w_reg ?_
          refine w_sl_ix Z (evs' (gsn rfl f_p73)) (evs' (gsn rfl f_p75)) (by omega) (by omega) (fun s6 o6 cs6 e6 hs6 he6 ht6 hf6 => ?_)
          obtain ⟨y6, hy6, rfl⟩ := map_at he6
          refine w_ldn rfl hs6 ht6 ?_
          refine m_alloc (fun n7 h7 hb_n7 kp7 nn7 hn7 => ?_)
          have nf_n7_S := S.new nn7
          have nf_n7_Z := Z.new nn7
          have nf_n7_R := R.new nn7
          have hs6 := kp7.get hs6 (Z.lt _ hf6) (nF0 _ hf6)
          have hb_b := kp7.get hb_b lt_b ni0
          have hb_n3 := kp7.get hb_n3 lt_n3 ni0
          have S := S.keep kp7 nF0
          have Z := Z.keep kp7 nF0
          have R := R.keep kp7 nF0
          have lt_b := kp7.lt lt_b
          have lt_n3 := kp7.lt lt_n3
          have lt_n7 : n7.num < h7.next.num := by omega
          refine w_kp ?_
          refine m_st_agg hb_n7 rfl rfl rfl rfl (fun h8 hq kp8 => ?_)
          have hs6 := kp8.get hs6 (Z.lt _ hf6) ((nF1 nf_n7_Z) _ hf6)
          have hb_b := kp8.get hb_b lt_b (ni1 (by omega))
          have hb_n3 := kp8.get hb_n3 lt_n3 (ni1 (by omega))
          have S := S.keep kp8 (nF1 nf_n7_S)
          have Z := Z.keep kp8 (nF1 nf_n7_Z)
          have R := R.keep kp8 (nF1 nf_n7_R)
          have lt_b := kp8.lt lt_b
          have lt_n3 := kp8.lt lt_n3
          have lt_n7 := kp8.lt lt_n7
          have hb_n7 := hq
          refine w_nil ?_
          refine w_seq ?_
          refine w_seq ?_
          refine w_reg ?_
          refine w_fa (evs' gse) ?_
          refine w_ld rfl hb_n7 rfl ?_
          refine w_fa (evs' (gsn rfl (gsn rfl f_p10))) ?_
          refine w_ld rfl hb_n3 rfl ?_
          refine w_le rfl rfl (fun c6 => ?_) (fun c6 => ?_)
          ·
            refine w_mv_bool rfl ?_
            refine w_gop rfl (fun _ => ?_) (fun hh => nomatch hh)
            refine w_fa (evs' gse) ?_
            refine w_gop rfl (fun _ => ?_) (fun hh => nomatch hh)
            refine w_ld rfl hb_n7 rfl ?_
            refine w_gop rfl (fun _ => ?_) (fun hh => nomatch hh)
            refine w_fa (evs' (gsn rfl (gsn rfl f_p10))) ?_
            refine w_gop rfl (fun _ => ?_) (fun hh => nomatch hh)
            refine w_ld rfl hb_n3 rfl ?_
            refine w_gop rfl (fun _ => ?_) (fun hh => nomatch hh)
            refine w_ge rfl rfl (fun c7 => ?_) (fun c7 => ?_)
            ·
              refine w_pick rfl (fun _ => ?_) (fun hh => nomatch hh)
              refine w_mv_bool rfl ?_
              refine w_kp ?_
              refine w_nil ?_
              refine w_cond (evs' gse) (fun _ => ?_) (fun hh => nomatch hh)
              refine w_seq ?_
              refine w_reg ?_
              refine w_mv_bool rfl ?_
              refine w_kp ?_
              refine w_nil ?_
              refine w_ret ?_
              refine ens_ret1 gse ?_
              exact (k _ _ _ _ lea hb_b S Z ((kp0.tr0 kp7).trn kp8 (Nat.le_trans kp0.1 (Nat.le_of_eq nn7.symm))) (fun c hc => .inl hc) hls (fun y hy => .inl hy))
            ·
              refine w_pick rfl (fun _ => ?_) (fun hh => nomatch hh)
              refine w_mv_bool rfl ?_
              refine w_kp ?_
              refine w_nil ?_
              refine w_cond (evs' gse) (fun hh => nomatch hh) (fun _ => ?_)
              refine w_skip ?_
              refine w_seq ?_
              refine w_reg ?_
              refine w_fa (evs' (gsn rfl gse)) ?_
              refine w_ld rfl hb_n7 rfl ?_
              refine w_fa (evs' (gsn rfl (gsn rfl (gsn rfl f_p10)))) ?_
              refine w_ld rfl hb_n3 rfl ?_
              refine w_lt rfl rfl (fun c8 => ?_) (fun c8 => ?_)
              ·
                refine w_mv_bool rfl ?_
                refine w_gop rfl (fun hh => nomatch hh) (fun _ => ?_)
                refine w_gop rfl (fun hh => nomatch hh) (fun _ => ?_)
                refine w_gop rfl (fun hh => nomatch hh) (fun _ => ?_)
                refine w_gop rfl (fun hh => nomatch hh) (fun _ => ?_)
                refine w_gop rfl (fun hh => nomatch hh) (fun _ => ?_)
                refine w_pick rfl (fun _ => ?_) (fun hh => nomatch hh)
                refine w_mv_bool rfl ?_
                refine w_kp ?_
                refine w_nil ?_
                refine w_cond (evs' gse) (fun _ => ?_) (fun hh => nomatch hh)
                refine w_reg ?_
                refine w_mv (evs' (gsn rfl (gsn rfl (gsn rfl (gsn rfl f_p11))))) ?_
                refine w_ldn (evs' (gsn rfl (gsn rfl gse))) hb_n7 rfl ?_
                refine m_one_agg rfl rfl rfl (fun t9 h9 hb_t9 kp9 nn9 hn9 => ?_)
                have nf_t9_S := S.new nn9
                have nf_t9_Z := Z.new nn9
                have nf_t9_R := R.new nn9
                have hb_b := kp9.get hb_b lt_b ni0
                have hb_n3 := kp9.get hb_n3 lt_n3 ni0
                have hb_n7 := kp9.get hb_n7 lt_n7 ni0
                have S := S.keep kp9 nF0
                have Z := Z.keep kp9 nF0
                have R := R.keep kp9 nF0
                have lt_b := kp9.lt lt_b
                have lt_n3 := kp9.lt lt_n3
                have lt_n7 := kp9.lt lt_n7
                refine m_app R hb_t9 rfl (by decide) (by rw [List.length_map]; omega) rfl rfl (fun v10 h10 m10 S10 kp10 nn10 hn10 => ?_)
                have nf_b_S10 : b ∉ [m10] := ni1 (by omega)
                have nf_n3_S10 : n3 ∉ [m10] := ni1 (by omega)
                have nf_n7_S10 : n7 ∉ [m10] := ni1 (by omega)
                have dj_S_S10 := nF1 (S.new nn10)
                have dj_S10_S := dj_symm dj_S_S10
                have dj_Z_S10 := nF1 (Z.new nn10)
                have dj_S10_Z := dj_symm dj_Z_S10
                have hb_b := kp10.get hb_b lt_b nf_b_R
                have hb_n3 := kp10.get hb_n3 lt_n3 nf_n3_R
                have hb_n7 := kp10.get hb_n7 lt_n7 nf_n7_R
                have S := S.keep kp10 dj_S_R
                have Z := Z.keep kp10 dj_Z_R
                have lt_b := kp10.lt lt_b
                have lt_n3 := kp10.lt lt_n3
                have lt_n7 := kp10.lt lt_n7
                have S10 : Sl 2 h10 v10 [m10] ((rl ++ [y6]).map le) := by rw [List.map_append]; exact S10
                refine w_mv rfl ?_
                refine w_kp ?_
                refine w_nil ?_
                refine w_reg ?_
                refine w_add (evs' (gsn rfl (gsn rfl (gsn rfl (gsn rfl (gsn rfl f_p75)))))) rfl (wr64 (by omega) (by omega)) ?_
                refine w_mv_int rfl ?_
                refine w_kp ?_
                refine w_nil ?_
                exact ⟨kk - 1, by omega, i + 1, _, _, rl ++ [y6], (gsn rfl (gsn rfl (gsn rfl (gsn rfl (gsn rfl (gsn rfl f_p0)))))), (gsn rfl (gsn rfl (gsn rfl (gsn rfl (gsn rfl (gsn rfl f_p6)))))), (gsn rfl (gsn rfl (gsn rfl (gsn rfl (gsn rfl (gsn rfl f_p10)))))), (gsn rfl gse), (gsn rfl (gsn rfl (gsn rfl (gsn rfl (gsn rfl (gsn rfl f_p73)))))), (gsn rfl (gsn rfl (gsn rfl (gsn rfl (gsn rfl (gsn rfl f_p74)))))), gse, (by omega), (by omega), (((((kp0.tr0 kp7).trn kp8 (Nat.le_trans kp0.1 (Nat.le_of_eq nn7.symm))).tr0 kp9).trF kp10 (fun c hc => .inr (hRf c hc)))), (by rw [List.length_append]; simp; omega), (fun y hy => (List.mem_append.1 hy).elim (hrm y) (fun q => by rw [List.mem_singleton.1 q]; exact List.mem_of_getElem? hy6)), (fun c hc => by rw [List.mem_singleton.1 hc]; have := kp0.1; have := kp7.1; have := kp8.1; have := kp9.1; have := kp10.1; omega), hb_b, lt_b, hb_n3, lt_n3, S, Z, S10, nf_b_S, nf_b_Z, nf_b_S10, nf_n3_S, nf_n3_Z, nf_n3_S10, dj_S_Z, dj_S_S10, dj_Z_S, dj_Z_S10, dj_S10_S, dj_S10_Z⟩
              ·
                refine w_mv_bool rfl ?_
                refine w_gop rfl (fun _ => ?_) (fun hh => nomatch hh)
                refine w_fa (evs' (gsn rfl gse)) ?_
                refine w_gop rfl (fun _ => ?_) (fun hh => nomatch hh)
                refine w_ld rfl hb_n7 rfl ?_
                refine w_gop rfl (fun _ => ?_) (fun hh => nomatch hh)
                refine w_fa (evs' (gsn rfl (gsn rfl (gsn rfl f_p10)))) ?_
                refine w_gop rfl (fun _ => ?_) (fun hh => nomatch hh)
                refine w_ld rfl hb_n3 rfl ?_
                refine w_gop rfl (fun _ => ?_) (fun hh => nomatch hh)
                refine w_gt rfl rfl (fun c9 => ?_) (fun c9 => ?_)
                ·
                  refine w_pick rfl (fun hh => nomatch hh) (fun _ => ?_)
                  refine w_mv_bool rfl ?_
                  refine w_kp ?_
                  refine w_nil ?_
                  refine w_cond (evs' gse) (fun _ => ?_) (fun hh => nomatch hh)
                  refine w_reg ?_
                  refine w_mv (evs' (gsn rfl (gsn rfl (gsn rfl (gsn rfl f_p11))))) ?_
                  refine w_ldn (evs' (gsn rfl (gsn rfl gse))) hb_n7 rfl ?_
                  refine m_one_agg rfl rfl rfl (fun t9 h9 hb_t9 kp9 nn9 hn9 => ?_)
                  have nf_t9_S := S.new nn9
                  have nf_t9_Z := Z.new nn9
                  have nf_t9_R := R.new nn9
                  have hb_b := kp9.get hb_b lt_b ni0
                  have hb_n3 := kp9.get hb_n3 lt_n3 ni0
                  have hb_n7 := kp9.get hb_n7 lt_n7 ni0
                  have S := S.keep kp9 nF0
                  have Z := Z.keep kp9 nF0
                  have R := R.keep kp9 nF0
                  have lt_b := kp9.lt lt_b
                  have lt_n3 := kp9.lt lt_n3
                  have lt_n7 := kp9.lt lt_n7
                  refine m_app R hb_t9 rfl (by decide) (by rw [List.length_map]; omega) rfl rfl (fun v10 h10 m10 S10 kp10 nn10 hn10 => ?_)
                  have nf_b_S10 : b ∉ [m10] := ni1 (by omega)
                  have nf_n3_S10 : n3 ∉ [m10] := ni1 (by omega)
                  have nf_n7_S10 : n7 ∉ [m10] := ni1 (by omega)
                  have dj_S_S10 := nF1 (S.new nn10)
                  have dj_S10_S := dj_symm dj_S_S10
                  have dj_Z_S10 := nF1 (Z.new nn10)
                  have dj_S10_Z := dj_symm dj_Z_S10
                  have hb_b := kp10.get hb_b lt_b nf_b_R
                  have hb_n3 := kp10.get hb_n3 lt_n3 nf_n3_R
                  have hb_n7 := kp10.get hb_n7 lt_n7 nf_n7_R
                  have S := S.keep kp10 dj_S_R
                  have Z := Z.keep kp10 dj_Z_R
                  have lt_b := kp10.lt lt_b
                  have lt_n3 := kp10.lt lt_n3
                  have lt_n7 := kp10.lt lt_n7
                  have S10 : Sl 2 h10 v10 [m10] ((rl ++ [y6]).map le) := by rw [List.map_append]; exact S10
                  refine w_mv rfl ?_
                  refine w_kp ?_
                  refine w_nil ?_
                  refine w_reg ?_
                  refine w_add (evs' (gsn rfl (gsn rfl (gsn rfl (gsn rfl (gsn rfl f_p75)))))) rfl (wr64 (by omega) (by omega)) ?_
                  refine w_mv_int rfl ?_
                  refine w_kp ?_
                  refine w_nil ?_
                  exact ⟨kk - 1, by omega, i + 1, _, _, rl ++ [y6], (gsn rfl (gsn rfl (gsn rfl (gsn rfl (gsn rfl (gsn rfl f_p0)))))), (gsn rfl (gsn rfl (gsn rfl (gsn rfl (gsn rfl (gsn rfl f_p6)))))), (gsn rfl (gsn rfl (gsn rfl (gsn rfl (gsn rfl (gsn rfl f_p10)))))), (gsn rfl gse), (gsn rfl (gsn rfl (gsn rfl (gsn rfl (gsn rfl (gsn rfl f_p73)))))), (gsn rfl (gsn rfl (gsn rfl (gsn rfl (gsn rfl (gsn rfl f_p74)))))), gse, (by omega), (by omega), (((((kp0.tr0 kp7).trn kp8 (Nat.le_trans kp0.1 (Nat.le_of_eq nn7.symm))).tr0 kp9).trF kp10 (fun c hc => .inr (hRf c hc)))), (by rw [List.length_append]; simp; omega), (fun y hy => (List.mem_append.1 hy).elim (hrm y) (fun q => by rw [List.mem_singleton.1 q]; exact List.mem_of_getElem? hy6)), (fun c hc => by rw [List.mem_singleton.1 hc]; have := kp0.1; have := kp7.1; have := kp8.1; have := kp9.1; have := kp10.1; omega), hb_b, lt_b, hb_n3, lt_n3, S, Z, S10, nf_b_S, nf_b_Z, nf_b_S10, nf_n3_S, nf_n3_Z, nf_n3_S10, dj_S_Z, dj_S_S10, dj_Z_S, dj_Z_S10, dj_S10_S, dj_S10_Z⟩
                ·
                  refine w_pick rfl (fun hh => nomatch hh) (fun _ => ?_)
                  refine w_mv_bool rfl ?_
                  refine w_kp ?_
                  refine w_nil ?_
                  refine w_cond (evs' gse) (fun hh => nomatch hh) (fun _ => ?_)
                  refine w_skip ?_
                  refine w_reg ?_
                  refine w_add (evs' (gsn rfl (gsn rfl (gsn rfl (gsn rfl f_p75))))) rfl (wr64 (by omega) (by omega)) ?_
                  refine w_mv_int rfl ?_
                  refine w_kp ?_
                  refine w_nil ?_
                  exact ⟨kk - 1, by omega, i + 1, _, _, rl, (gsn rfl (gsn rfl (gsn rfl (gsn rfl (gsn rfl f_p0))))), (gsn rfl (gsn rfl (gsn rfl (gsn rfl (gsn rfl f_p6))))), (gsn rfl (gsn rfl (gsn rfl (gsn rfl (gsn rfl f_p10))))), (gsn rfl (gsn rfl (gsn rfl (gsn rfl (gsn rfl f_p11))))), (gsn rfl (gsn rfl (gsn rfl (gsn rfl (gsn rfl f_p73))))), (gsn rfl (gsn rfl (gsn rfl (gsn rfl (gsn rfl f_p74))))), gse, (by omega), (by omega), (((kp0.tr0 kp7).trn kp8 (Nat.le_trans kp0.1 (Nat.le_of_eq nn7.symm)))), (by omega), (hrm), (hRf), hb_b, lt_b, hb_n3, lt_n3, S, Z, R, nf_b_S, nf_b_Z, nf_b_R, nf_n3_S, nf_n3_Z, nf_n3_R, dj_S_Z, dj_S_R, dj_Z_S, dj_Z_R, dj_R_S, dj_R_Z⟩
          ·
            refine w_mv_bool rfl ?_
            refine w_gop rfl (fun hh => nomatch hh) (fun _ => ?_)
            refine w_gop rfl (fun hh => nomatch hh) (fun _ => ?_)
            refine w_gop rfl (fun hh => nomatch hh) (fun _ => ?_)
            refine w_gop rfl (fun hh => nomatch hh) (fun _ => ?_)
            refine w_gop rfl (fun hh => nomatch hh) (fun _ => ?_)
            refine w_pick rfl (fun hh => nomatch hh) (fun _ => ?_)
            refine w_mv_bool rfl ?_
            refine w_kp ?_
            refine w_nil ?_
            refine w_cond (evs' gse) (fun hh => nomatch hh) (fun _ => ?_)
            refine w_skip ?_
            refine w_seq ?_
            refine w_reg ?_
            refine w_fa (evs' (gsn rfl gse)) ?_
            refine w_ld rfl hb_n7 rfl ?_
            refine w_fa (evs' (gsn rfl (gsn rfl (gsn rfl f_p10)))) ?_
            refine w_ld rfl hb_n3 rfl ?_
            refine w_lt rfl rfl (fun c10 => ?_) (fun c10 => ?_)
            ·
              refine w_mv_bool rfl ?_
              refine w_gop rfl (fun hh => nomatch hh) (fun _ => ?_)
              refine w_gop rfl (fun hh => nomatch hh) (fun _ => ?_)
              refine w_gop rfl (fun hh => nomatch hh) (fun _ => ?_)
              refine w_gop rfl (fun hh => nomatch hh) (fun _ => ?_)
              refine w_gop rfl (fun hh => nomatch hh) (fun _ => ?_)
              refine w_pick rfl (fun _ => ?_) (fun hh => nomatch hh)
              refine w_mv_bool rfl ?_
              refine w_kp ?_
              refine w_nil ?_
              refine w_cond (evs' gse) (fun _ => ?_) (fun hh => nomatch hh)
              refine w_reg ?_
              refine w_mv (evs' (gsn rfl (gsn rfl (gsn rfl (gsn rfl f_p11))))) ?_
              refine w_ldn (evs' (gsn rfl (gsn rfl gse))) hb_n7 rfl ?_
              refine m_one_agg rfl rfl rfl (fun t9 h9 hb_t9 kp9 nn9 hn9 => ?_)
              have nf_t9_S := S.new nn9
              have nf_t9_Z := Z.new nn9
              have nf_t9_R := R.new nn9
              have hb_b := kp9.get hb_b lt_b ni0
              have hb_n3 := kp9.get hb_n3 lt_n3 ni0
              have hb_n7 := kp9.get hb_n7 lt_n7 ni0
              have S := S.keep kp9 nF0
              have Z := Z.keep kp9 nF0
              have R := R.keep kp9 nF0
              have lt_b := kp9.lt lt_b
              have lt_n3 := kp9.lt lt_n3
              have lt_n7 := kp9.lt lt_n7
              refine m_app R hb_t9 rfl (by decide) (by rw [List.length_map]; omega) rfl rfl (fun v10 h10 m10 S10 kp10 nn10 hn10 => ?_)
              have nf_b_S10 : b ∉ [m10] := ni1 (by omega)
              have nf_n3_S10 : n3 ∉ [m10] := ni1 (by omega)
              have nf_n7_S10 : n7 ∉ [m10] := ni1 (by omega)
              have dj_S_S10 := nF1 (S.new nn10)
              have dj_S10_S := dj_symm dj_S_S10
              have dj_Z_S10 := nF1 (Z.new nn10)
              have dj_S10_Z := dj_symm dj_Z_S10
              have hb_b := kp10.get hb_b lt_b nf_b_R
              have hb_n3 := kp10.get hb_n3 lt_n3 nf_n3_R
              have hb_n7 := kp10.get hb_n7 lt_n7 nf_n7_R
              have S := S.keep kp10 dj_S_R
              have Z := Z.keep kp10 dj_Z_R
              have lt_b := kp10.lt lt_b
              have lt_n3 := kp10.lt lt_n3
              have lt_n7 := kp10.lt lt_n7
              have S10 : Sl 2 h10 v10 [m10] ((rl ++ [y6]).map le) := by rw [List.map_append]; exact S10
              refine w_mv rfl ?_
              refine w_kp ?_
              refine w_nil ?_
              refine w_reg ?_
              refine w_add (evs' (gsn rfl (gsn rfl (gsn rfl (gsn rfl (gsn rfl f_p75)))))) rfl (wr64 (by omega) (by omega)) ?_
              refine w_mv_int rfl ?_
              refine w_kp ?_
              refine w_nil ?_
              exact ⟨kk - 1, by omega, i + 1, _, _, rl ++ [y6], (gsn rfl (gsn rfl (gsn rfl (gsn rfl (gsn rfl (gsn rfl f_p0)))))), (gsn rfl (gsn rfl (gsn rfl (gsn rfl (gsn rfl (gsn rfl f_p6)))))), (gsn rfl (gsn rfl (gsn rfl (gsn rfl (gsn rfl (gsn rfl f_p10)))))), (gsn rfl gse), (gsn rfl (gsn rfl (gsn rfl (gsn rfl (gsn rfl (gsn rfl f_p73)))))), (gsn rfl (gsn rfl (gsn rfl (gsn rfl (gsn rfl (gsn rfl f_p74)))))), gse, (by omega), (by omega), (((((kp0.tr0 kp7).trn kp8 (Nat.le_trans kp0.1 (Nat.le_of_eq nn7.symm))).tr0 kp9).trF kp10 (fun c hc => .inr (hRf c hc)))), (by rw [List.length_append]; simp; omega), (fun y hy => (List.mem_append.1 hy).elim (hrm y) (fun q => by rw [List.mem_singleton.1 q]; exact List.mem_of_getElem? hy6)), (fun c hc => by rw [List.mem_singleton.1 hc]; have := kp0.1; have := kp7.1; have := kp8.1; have := kp9.1; have := kp10.1; omega), hb_b, lt_b, hb_n3, lt_n3, S, Z, S10, nf_b_S, nf_b_Z, nf_b_S10, nf_n3_S, nf_n3_Z, nf_n3_S10, dj_S_Z, dj_S_S10, dj_Z_S, dj_Z_S10, dj_S10_S, dj_S10_Z⟩
            ·
              refine w_mv_bool rfl ?_
              refine w_gop rfl (fun _ => ?_) (fun hh => nomatch hh)
              refine w_fa (evs' (gsn rfl gse)) ?_
              refine w_gop rfl (fun _ => ?_) (fun hh => nomatch hh)
              refine w_ld rfl hb_n7 rfl ?_
              refine w_gop rfl (fun _ => ?_) (fun hh => nomatch hh)
              refine w_fa (evs' (gsn rfl (gsn rfl (gsn rfl f_p10)))) ?_
              refine w_gop rfl (fun _ => ?_) (fun hh => nomatch hh)
              refine w_ld rfl hb_n3 rfl ?_
              refine w_gop rfl (fun _ => ?_) (fun hh => nomatch hh)
              refine w_gt rfl rfl (fun c11 => ?_) (fun c11 => ?_)
              ·
                refine w_pick rfl (fun hh => nomatch hh) (fun _ => ?_)
                refine w_mv_bool rfl ?_
                refine w_kp ?_
                refine w_nil ?_
                refine w_cond (evs' gse) (fun _ => ?_) (fun hh => nomatch hh)
                refine w_reg ?_
                refine w_mv (evs' (gsn rfl (gsn rfl (gsn rfl (gsn rfl f_p11))))) ?_
                refine w_ldn (evs' (gsn rfl (gsn rfl gse))) hb_n7 rfl ?_
                refine m_one_agg rfl rfl rfl (fun t9 h9 hb_t9 kp9 nn9 hn9 => ?_)
                have nf_t9_S := S.new nn9
                have nf_t9_Z := Z.new nn9
                have nf_t9_R := R.new nn9
                have hb_b := kp9.get hb_b lt_b ni0
                have hb_n3 := kp9.get hb_n3 lt_n3 ni0
                have hb_n7 := kp9.get hb_n7 lt_n7 ni0
                have S := S.keep kp9 nF0
                have Z := Z.keep kp9 nF0
                have R := R.keep kp9 nF0
                have lt_b := kp9.lt lt_b
                have lt_n3 := kp9.lt lt_n3
                have lt_n7 := kp9.lt lt_n7
                refine m_app R hb_t9 rfl (by decide) (by rw [List.length_map]; omega) rfl rfl (fun v10 h10 m10 S10 kp10 nn10 hn10 => ?_)
                have nf_b_S10 : b ∉ [m10] := ni1 (by omega)
                have nf_n3_S10 : n3 ∉ [m10] := ni1 (by omega)
                have nf_n7_S10 : n7 ∉ [m10] := ni1 (by omega)
                have dj_S_S10 := nF1 (S.new nn10)
                have dj_S10_S := dj_symm dj_S_S10
                have dj_Z_S10 := nF1 (Z.new nn10)
                have dj_S10_Z := dj_symm dj_Z_S10
                have hb_b := kp10.get hb_b lt_b nf_b_R
                have hb_n3 := kp10.get hb_n3 lt_n3 nf_n3_R
                have hb_n7 := kp10.get hb_n7 lt_n7 nf_n7_R
                have S := S.keep kp10 dj_S_R
                have Z := Z.keep kp10 dj_Z_R
                have lt_b := kp10.lt lt_b
                have lt_n3 := kp10.lt lt_n3
                have lt_n7 := kp10.lt lt_n7
                have S10 : Sl 2 h10 v10 [m10] ((rl ++ [y6]).map le) := by rw [List.map_append]; exact S10
                refine w_mv rfl ?_
                refine w_kp ?_
                refine w_nil ?_
                refine w_reg ?_
                refine w_add (evs' (gsn rfl (gsn rfl (gsn rfl (gsn rfl (gsn rfl f_p75)))))) rfl (wr64 (by omega) (by omega)) ?_
                refine w_mv_int rfl ?_
                refine w_kp ?_
                refine w_nil ?_
                exact ⟨kk - 1, by omega, i + 1, _, _, rl ++ [y6], (gsn rfl (gsn rfl (gsn rfl (gsn rfl (gsn rfl (gsn rfl f_p0)))))), (gsn rfl (gsn rfl (gsn rfl (gsn rfl (gsn rfl (gsn rfl f_p6)))))), (gsn rfl (gsn rfl (gsn rfl (gsn rfl (gsn rfl (gsn rfl f_p10)))))), (gsn rfl gse), (gsn rfl (gsn rfl (gsn rfl (gsn rfl (gsn rfl (gsn rfl f_p73)))))), (gsn rfl (gsn rfl (gsn rfl (gsn rfl (gsn rfl (gsn rfl f_p74)))))), gse, (by omega), (by omega), (((((kp0.tr0 kp7).trn kp8 (Nat.le_trans kp0.1 (Nat.le_of_eq nn7.symm))).tr0 kp9).trF kp10 (fun c hc => .inr (hRf c hc)))), (by rw [List.length_append]; simp; omega), (fun y hy => (List.mem_append.1 hy).elim (hrm y) (fun q => by rw [List.mem_singleton.1 q]; exact List.mem_of_getElem? hy6)), (fun c hc => by rw [List.mem_singleton.1 hc]; have := kp0.1; have := kp7.1; have := kp8.1; have := kp9.1; have := kp10.1; omega), hb_b, lt_b, hb_n3, lt_n3, S, Z, S10, nf_b_S, nf_b_Z, nf_b_S10, nf_n3_S, nf_n3_Z, nf_n3_S10, dj_S_Z, dj_S_S10, dj_Z_S, dj_Z_S10, dj_S10_S, dj_S10_Z⟩
              ·
                refine w_pick rfl (fun hh => nomatch hh) (fun _ => ?_)
                refine w_mv_bool rfl ?_
                refine w_kp ?_
                refine w_nil ?_
                refine w_cond (evs' gse) (fun hh => nomatch hh) (fun _ => ?_)
                refine w_skip ?_
                refine w_reg ?_
                refine w_add (evs' (gsn rfl (gsn rfl (gsn rfl (gsn rfl f_p75))))) rfl (wr64 (by omega) (by omega)) ?_
                refine w_mv_int rfl ?_
                refine w_kp ?_
                refine w_nil ?_
                exact ⟨kk - 1, by omega, i + 1, _, _, rl, (gsn rfl (gsn rfl (gsn rfl (gsn rfl (gsn rfl f_p0))))), (gsn rfl (gsn rfl (gsn rfl (gsn rfl (gsn rfl f_p6))))), (gsn rfl (gsn rfl (gsn rfl (gsn rfl (gsn rfl f_p10))))), (gsn rfl (gsn rfl (gsn rfl (gsn rfl (gsn rfl f_p11))))), (gsn rfl (gsn rfl (gsn rfl (gsn rfl (gsn rfl f_p73))))), (gsn rfl (gsn rfl (gsn rfl (gsn rfl (gsn rfl f_p74))))), gse, (by omega), (by omega), (((kp0.tr0 kp7).trn kp8 (Nat.le_trans kp0.1 (Nat.le_of_eq nn7.symm)))), (by omega), (hrm), (hRf), hb_b, lt_b, hb_n3, lt_n3, S, Z, R, nf_b_S, nf_b_Z, nf_b_R, nf_n3_S, nf_n3_Z, nf_n3_R, dj_S_Z, dj_S_R, dj_Z_S, dj_Z_R, dj_R_S, dj_R_Z⟩
        ·
          refine w_kp ?_
          refine w_nil ?_
          refine w_seq ?_
          refine w_cond (evs' gse) (fun hh => nomatch hh) (fun _ => ?_)
          refine w_exit ?_
          refine w_seq ?_
          refine w_reg ?_
          refine w_mv_ptr (evs' (gsn rfl f_p0)) ?_
          refine w_mv (evs' (gsn rfl f_p11)) ?_
          refine w_ldn (evs' (gsn rfl f_p10)) hb_n3 rfl ?_
          refine m_one_agg rfl rfl rfl (fun t6 h6 hb_t6 kp6 nn6 hn6 => ?_)
          have nf_t6_S := S.new nn6
          have nf_t6_Z := Z.new nn6
          have nf_t6_R := R.new nn6
          have hb_b := kp6.get hb_b lt_b ni0
          have hb_n3 := kp6.get hb_n3 lt_n3 ni0
          have S := S.keep kp6 nF0
          have Z := Z.keep kp6 nF0
          have R := R.keep kp6 nF0
          have lt_b := kp6.lt lt_b
          have lt_n3 := kp6.lt lt_n3
          refine m_app R hb_t6 rfl (by decide) (by rw [List.length_map]; omega) rfl rfl (fun v7 h7 m7 S7 kp7 nn7 hn7 => ?_)
          have nf_b_S7 : b ∉ [m7] := ni1 (by omega)
          have nf_n3_S7 : n3 ∉ [m7] := ni1 (by omega)
          have dj_S_S7 := nF1 (S.new nn7)
          have dj_S7_S := dj_symm dj_S_S7
          have dj_Z_S7 := nF1 (Z.new nn7)
          have dj_S7_Z := dj_symm dj_Z_S7
          have hb_b := kp7.get hb_b lt_b nf_b_R
          have hb_n3 := kp7.get hb_n3 lt_n3 nf_n3_R
          have S := S.keep kp7 dj_S_R
          have Z := Z.keep kp7 dj_Z_R
          have lt_b := kp7.lt lt_b
          have lt_n3 := kp7.lt lt_n3
          have S7 : Sl 2 h7 v7 [m7] ((rl ++ [(max 0 num, ser - 1 + holdF (lenF len) ppm)]).map le) := by rw [List.map_append]; exact S7
          have hfz : ∀ c ∈ [m7], h.next.num ≤ c.num := fun c hc => by rw [List.mem_singleton.1 hc]; have := kp0.1; have := kp6.1; have := kp7.1; omega
          have hrL : rl.length ≤ 16 := by omega
          refine w_nck rfl ?_
          refine w_fa rfl ?_
          refine m_st_v hb_b S7.flat rfl rfl rfl (fun h8 hq kp8 => ?_)
          have hb_n3 := kp8.get hb_n3 lt_n3 (ni1 (by omega))
          have S := S.keep kp8 (nF1 nf_b_S)
          have Z := Z.keep kp8 (nF1 nf_b_Z)
          have S7 := S7.keep kp8 (nF1 nf_b_S7)
          have lt_b := kp8.lt lt_b
          have lt_n3 := kp8.lt lt_n3
          have hb_b := hq
          refine w_nil ?_
          refine w_seq ?_
          refine w_seq ?_
          refine w_reg ?_
          refine w_mv_ptr (evs' (gsn rfl f_p0)) ?_
          refine w_nck rfl ?_
          refine w_fa rfl ?_
          refine w_ld rfl hb_b rfl ?_
          refine w_sl_len S7 rfl ?_
          refine w_gt rfl rfl (fun c12 => ?_) (fun c12 => ?_)
          ·
            refine w_kp ?_
            refine w_nil ?_
            refine w_cond (evs' gse) (fun _ => ?_) (fun hh => nomatch hh)
            refine w_seq ?_
            refine w_reg ?_
            refine w_mv_int rfl ?_
            refine w_kp ?_
            refine w_nil ?_
            refine w_seq ?_
            refine w_seq ?_
            refine w_reg ?_
            refine w_mv_ptr (evs' (gsn rfl (gsn rfl (gsn rfl f_p0)))) ?_
            refine w_nck rfl ?_
            refine w_fa rfl ?_
            refine w_ld rfl hb_b rfl ?_
            refine w_kp ?_
            refine w_sl_len S7 rfl ?_
            refine w_kp ?_
            refine w_mv_int rfl ?_
            refine w_kp ?_
            refine w_nil ?_
            refine w_block ?_
            have hL17 : ((rl ++ [(max 0 num, ser - 1 + holdF (lenF len) ppm)]).map le).length ≤ 17 := by simp; omega
            refine w_loop (fun kk fr hh => ∃ (j : Int) (f : Int), fr.get p0 = some (.ptr b 0) ∧ fr.get p14 = some (.int .i64 f) ∧ fr.get p124 = some (v7) ∧ fr.get p125 = some (.int .i64 (((rl ++ [(max 0 num, ser - 1 + holdF (lenF len) ppm)]).map le).length : Int)) ∧ fr.get p126 = some (.int .i64 j) ∧ (0 ≤ j) ∧ (j + (kk : Int) = ((rl ++ [(max 0 num, ser - 1 + holdF (lenF len) ppm)]).map le).length) ∧ (0 ≤ f) ∧ (f < ((rl ++ [(max 0 num, ser - 1 + holdF (lenF len) ppm)]).map le).length) ∧ (Keep h hh [b]) ∧ (hh.get b = some (.cells [.int .i64 ppm, .int .i64 (rd now now0), .int .i64 gr, vs, v7] false)) ∧ (b.num < hh.next.num) ∧ (Sl 1 hh vs FS xs) ∧ (Sl 2 hh v7 [m7] ((rl ++ [(max 0 num, ser - 1 + holdF (lenF len) ppm)]).map le)) ∧ (b ∉ FS) ∧ (b ∉ [m7]) ∧ (∀ x ∈ FS, x ∉ [m7]) ∧ (∀ x ∈ [m7], x ∉ FS)) (k := ((rl ++ [(max 0 num, ser - 1 + holdF (lenF len) ppm)]).map le).length) (by simp; omega) ⟨0, 0, (gsn rfl (gsn rfl (gsn rfl (gsn rfl (gsn rfl (gsn rfl f_p0)))))), (gsn rfl (gsn rfl (gsn rfl gse))), (gsn rfl (gsn rfl gse)), (gsn rfl gse), gse, (by omega), (by omega), (by omega), (by omega), ((((kp0.tr0 kp6).trF kp7 (fun c hc => .inr (hRf c hc))).trb kp8 (by simp))), hb_b, lt_b, S, S7, nf_b_S, nf_b_S7, dj_S_S7, dj_S7_S⟩ ?_
            rintro kk fr hh ⟨j, f, f_p0, f_p14, f_p124, f_p125, f_p126, hj, hkj, hf0, hf1, kp0, hb_b, lt_b, S, S7, nf_b_S, nf_b_S7, dj_S_S7, dj_S7_S⟩
            refine w_seq ?_
            refine w_reg ?_
            refine w_lt (evs' f_p126) (evs' f_p125) (fun c13 => ?_) (fun c13 => ?_)
            ·
              refine w_kp ?_
              refine w_nil ?_
              refine w_seq ?_
              refine w_cond (evs' gse) (fun _ => ?_) (fun hh => nomatch hh)
              refine w_skip ?_
              refine w_seq ?_
              refine w_block ?_
              refine w_seq ?_
              refine w_reg ?_
              refine w_mv_int (evs' (gsn rfl f_p126)) ?_
              refine w_sl_ix S7 (evs' (gsn rfl f_p124)) (evs' (gsn rfl f_p126)) (by omega) (by omega) (fun s9 o9 cs9 e9 hs9 he9 ht9 hf9 => ?_)
              obtain ⟨y9, hy9, rfl⟩ := map_at he9
              refine w_ldn rfl hs9 ht9 ?_
              refine m_alloc (fun n10 h10 hb_n10 kp10 nn10 hn10 => ?_)
              have nf_n10_S := S.new nn10
              have nf_n10_S7 := S7.new nn10
              have hs9 := kp10.get hs9 (S7.lt _ hf9) (nF0 _ hf9)
              have hb_b := kp10.get hb_b lt_b ni0
              have S := S.keep kp10 nF0
              have S7 := S7.keep kp10 nF0
              have lt_b := kp10.lt lt_b
              have lt_n10 : n10.num < h10.next.num := by omega
              refine w_kp ?_
              refine w_mv_int rfl ?_
              refine w_kp ?_
              refine m_st_agg hb_n10 rfl rfl rfl rfl (fun h11 hq kp11 => ?_)
              have hs9 := kp11.get hs9 (S7.lt _ hf9) ((nF1 nf_n10_S7) _ hf9)
              have hb_b := kp11.get hb_b lt_b (ni1 (by omega))
              have S := S.keep kp11 (nF1 nf_n10_S)
              have S7 := S7.keep kp11 (nF1 nf_n10_S7)
              have lt_b := kp11.lt lt_b
              have lt_n10 := kp11.lt lt_n10
              have hb_n10 := hq
              refine w_nil ?_
              refine w_seq ?_
              refine w_reg ?_
              refine w_fa (evs' (gsn rfl gse)) ?_
              refine w_ld rfl hb_n10 rfl ?_
              refine w_mv_ptr (evs' (gsn rfl (gsn rfl (gsn rfl f_p0)))) ?_
              refine w_nck rfl ?_
              refine w_fa rfl ?_
              refine w_ld rfl hb_b rfl ?_
              refine w_mv_int (evs' (gsn rfl (gsn rfl (gsn rfl f_p14)))) ?_
              refine w_sl_ix S7 rfl rfl (by omega) (by omega) (fun s12 o12 cs12 e12 hs12 he12 ht12 hf12 => ?_)
              obtain ⟨y12, hy12, rfl⟩ := map_at he12
              refine w_fa rfl ?_
              refine w_ld rfl hs12 (takeN_nth (j := 1) ht12 rfl) ?_
              refine w_lt rfl rfl (fun c14 => ?_) (fun c14 => ?_)
              ·
                refine w_slot (v := .bool true) rfl ?_
                refine w_nil ?_
                refine w_cond (evs' gse) (fun _ => ?_) (fun hh => nomatch hh)
                refine w_reg ?_
                refine w_mv_int (evs' (gsn rfl gse)) ?_
                refine w_mv_int rfl ?_
                refine w_kp ?_
                refine w_nil ?_
                refine w_reg ?_
                refine w_add (evs' (gsn rfl (gsn rfl (gsn rfl (gsn rfl (gsn rfl f_p126)))))) rfl (wr64 (by omega) (by omega)) ?_
                refine w_mv_int rfl ?_
                refine w_kp ?_
                refine w_nil ?_
                exact ⟨kk - 1, by omega, j + 1, _, (gsn rfl (gsn rfl (gsn rfl (gsn rfl (gsn rfl (gsn rfl f_p0)))))), (gsn rfl gse), (gsn rfl (gsn rfl (gsn rfl (gsn rfl (gsn rfl (gsn rfl f_p124)))))), (gsn rfl (gsn rfl (gsn rfl (gsn rfl (gsn rfl (gsn rfl f_p125)))))), gse, (by omega), (by omega), (by omega), (by omega), (((kp0.tr0 kp10).trn kp11 (Nat.le_trans kp0.1 (Nat.le_of_eq nn10.symm)))), hb_b, lt_b, S, S7, nf_b_S, nf_b_S7, dj_S_S7, dj_S7_S⟩
              ·
                refine w_slot (v := .bool false) rfl ?_
                refine w_nil ?_
                refine w_cond (evs' gse) (fun hh => nomatch hh) (fun _ => ?_)
                refine w_skip ?_
                refine w_reg ?_
                refine w_add (evs' (gsn rfl (gsn rfl (gsn rfl (gsn rfl f_p126))))) rfl (wr64 (by omega) (by omega)) ?_
                refine w_mv_int rfl ?_
                refine w_kp ?_
                refine w_nil ?_
                exact ⟨kk - 1, by omega, j + 1, _, (gsn rfl (gsn rfl (gsn rfl (gsn rfl (gsn rfl f_p0))))), (gsn rfl (gsn rfl (gsn rfl (gsn rfl (gsn rfl f_p14))))), (gsn rfl (gsn rfl (gsn rfl (gsn rfl (gsn rfl f_p124))))), (gsn rfl (gsn rfl (gsn rfl (gsn rfl (gsn rfl f_p125))))), gse, (by omega), (by omega), (by omega), (by omega), (((kp0.tr0 kp10).trn kp11 (Nat.le_trans kp0.1 (Nat.le_of_eq nn10.symm)))), hb_b, lt_b, S, S7, nf_b_S, nf_b_S7, dj_S_S7, dj_S7_S⟩
            ·
              refine w_kp ?_
              refine w_nil ?_
              refine w_seq ?_
              refine w_cond (evs' gse) (fun hh => nomatch hh) (fun _ => ?_)
              refine w_exit ?_
              refine w_reg ?_
              refine w_mv_ptr (evs' (gsn rfl f_p0)) ?_
              refine w_mv_ptr (evs' (gsn rfl f_p0)) ?_
              refine w_nck rfl ?_
              refine w_fa rfl ?_
              refine w_ld rfl hb_b rfl ?_
              refine w_mv_int (evs' (gsn rfl f_p14)) ?_
              refine w_mv_int (evs' (gsn rfl f_p14)) ?_
              refine w_sl_to S7 rfl rfl rfl (by omega) (by omega) (by omega) (by decide) (fun v9 S9 => ?_)
              have nf_b_S9 := nf_b_S7
              have dj_S_S9 := dj_S_S7
              have dj_S9_S := dj_S7_S
              refine w_mv_ptr (evs' (gsn rfl f_p0)) ?_
              refine w_nck rfl ?_
              refine w_fa rfl ?_
              refine w_ld rfl hb_b rfl ?_
              refine w_mv_int (evs' (gsn rfl f_p14)) ?_
              refine w_add rfl rfl (wr64 (by omega) (by omega)) ?_
              refine w_sl_from S7 rfl rfl (by omega) (by omega) (by omega) (by decide) (fun v10 S10 => ?_)
              have nf_b_S10 := nf_b_S7
              have dj_S_S10 := dj_S_S7
              have dj_S10_S := dj_S7_S
              refine w_sl_cat S9 S10 (by decide) (by simp; omega) rfl rfl (fun v11 h11 F11 S11 kp11 hf11 => ?_)
              have nf_b_S11 : b ∉ F11 := fun hh => (hf11 _ hh).elim (fun q => nf_b_S9 q) (fun q => by omega)
              have dj_S_S11 : ∀ x ∈ _, x ∉ F11 := fun x hx hh => (hf11 _ hh).elim (fun q => dj_S_S9 x hx q) (fun q => by have := S.lt x hx; omega)
              have dj_S11_S := dj_symm dj_S_S11
              have hb_b := kp11.get hb_b lt_b nf_b_S9
              have S := S.keep kp11 dj_S_S9
              have lt_b := kp11.lt lt_b
              have S11 : Sl 2 h11 v11 F11 (((rl ++ [(max 0 num, ser - 1 + holdF (lenF len) ppm)]).take f.toNat ++ (rl ++ [(max 0 num, ser - 1 + holdF (lenF len) ppm)]).drop (f + 1).toNat).map le) := by rw [List.map_append, List.map_take, List.map_drop]; exact S11
              refine w_nck rfl ?_
              refine w_fa rfl ?_
              refine m_st_v hb_b S11.flat rfl rfl rfl (fun h12 hq kp12 => ?_)
              have S := S.keep kp12 (nF1 nf_b_S)
              have S11 := S11.keep kp12 (nF1 nf_b_S11)
              have lt_b := kp12.lt lt_b
              have hb_b := hq
              refine w_nil ?_
              refine w_seq ?_
              refine w_reg ?_
              refine w_mv_bool rfl ?_
              refine w_kp ?_
              refine w_nil ?_
              refine w_ret ?_
              refine ens_ret1 gse ?_
              have hL17 : (rl ++ [(max 0 num, ser - 1 + holdF (lenF len) ppm)]).length ≤ 17 := by rw [List.length_append]; simp; omega
              simp only [List.length_map] at hf1
              refine (k _ _ _ _ _ hb_b S S11 ((kp0.trF kp11 (fun c hc => .inr (hfz c hc))).trb kp12 (by simp)) (fun c hc => (hf11 c hc).elim (fun q => .inr (hfz c q)) (fun q => .inr (by have := kp0.1; have := kp11.1; have := kp12.1; omega))) ?_ ?_)
              · rw [List.length_append, List.length_take, List.length_drop]; omega
              · intro y hy
                have hy : y ∈ rl ++ [(max 0 num, ser - 1 + holdF (lenF len) ppm)] := (List.mem_append.1 hy).elim List.mem_of_mem_take List.mem_of_mem_drop
                exact (List.mem_append.1 hy).elim (fun q => .inl (hrm y q)) (fun q => .inr ⟨List.mem_singleton.1 q, hkn rfl⟩)
          ·
            refine w_kp ?_
            refine w_nil ?_
            refine w_cond (evs' gse) (fun hh => nomatch hh) (fun _ => ?_)
            refine w_skip ?_
            refine w_seq ?_
            refine w_reg ?_
            refine w_mv_bool rfl ?_
            refine w_kp ?_
            refine w_nil ?_
            refine w_ret ?_
            refine ens_ret1 gse ?_
            refine (k _ _ _ _ _ hb_b S S7 (((kp0.tr0 kp6).trF kp7 (fun c hc => .inr (hRf c hc))).trb kp8 (by simp)) (fun c hc => .inr (hfz c hc)) ?_ (fun y hy => (List.mem_append.1 hy).elim (fun q => .inl (hrm y q)) (fun q => .inr ⟨List.mem_singleton.1 q, hkn rfl⟩)))
            rw [List.length_map] at c12; omega
end Go.Am
