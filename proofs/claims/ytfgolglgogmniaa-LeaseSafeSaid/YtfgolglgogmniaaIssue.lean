/- Contracts of the issuer's methods. -/
import Derived.Test.YtfgolglgogmniaaTake
import Derived.KernelRfl
namespace Go.Am
set_option maxRecDepth 100000
set_option maxHeartbeats 8000000
theorem up_ok (L d : Nat) (a : Int) (h : H) {Q : V → H → Prop} (h0 : 0 ≤ a) (h1 : a ≤ 4611686018427387904) (k : Q (.int .i64 ((a + 1000000 - 1) / 1000000)) h) : Ens (call fnt L (d + 1) p32 [.int .i64 a, .int .i64 1000000] h) Q := by
  refine w_fn (af := af32) rfl rfl rfl ?_
  refine w_seq ?_
  refine w_reg ?_
  refine w_mv_int rfl ?_
  refine w_kp ?_
  refine w_nil ?_
  refine w_seq ?_
  refine w_reg ?_
  refine w_mv_int (evs' (gsn rfl rfl)) ?_
  refine w_mv_int (evs' (gsn rfl rfl)) ?_
  refine w_add rfl rfl (wr64 (by omega) (by omega)) ?_
  refine w_sub rfl rfl (wr64 (by omega) (by omega)) ?_
  refine w_mv_int (evs' (gsn rfl rfl)) ?_
  refine w_quop rfl rfl (by omega) (by omega) (wr64 (by omega) (by omega)) ?_
  refine w_mv_int rfl ?_
  refine w_kp ?_
  refine w_nil ?_
  refine w_ret ?_
  refine ens_ret1 gse ?_
  exact k
def waitF (l ppm : Int) : Int := if lim l 1099511627776 = 0 then 0 else ((lim l 1099511627776 - 1) * (1000000 + lim ppm 100000) + 1000000 - 1) / 1000000 + 1
theorem waitF_range {l ppm : Int} : 0 ≤ waitF l ppm ∧ waitF l ppm ≤ 1209462790555 := by
  have h1 := lim_range (n := l) (m := 1099511627776) (by decide)
  have h2 := lim_range (n := ppm) (m := 100000) (by decide)
  unfold waitF
  split
  · omega
  · have h3 := mul_range (a := lim l 1099511627776 - 1) (A := 1099511627775) (b := 1000000 + lim ppm 100000) (B := 1100000) (by omega) (by omega) (by omega) (by omega)
    omega
theorem wait_ok (L d : Nat) (l ppm : Int) (h : H) {Q : V → H → Prop} (k : Q (.int .i64 (waitF l ppm)) h) : Ens (call fnt L (d + 2) p30 [.int .i64 l, .int .i64 ppm] h) Q := by
  have h1 := lim_range (n := l) (m := 1099511627776) (by decide)
  have h2 := lim_range (n := ppm) (m := 100000) (by decide)
  have hm : lim l 1099511627776 ≠ 0 → 0 ≤ (lim l 1099511627776 - 1) * (1000000 + lim ppm 100000) ∧ (lim l 1099511627776 - 1) * (1000000 + lim ppm 100000) ≤ 1099511627775 * 1100000 := fun hh => mul_range (by omega) (by omega) (by omega) (by omega)
  refine w_fn (af := af30) rfl rfl rfl ?_
  refine w_seq ?_
  refine w_reg ?_
  refine w_mv_int rfl ?_
  refine w_kp ?_
  refine w_nil ?_
  refine w_seq ?_
  refine w_reg ?_
  refine w_mv_int (evs' (gsn rfl rfl)) ?_
  refine w_call (limited_ok _ _ _ _ _ ?_)
  refine w_mv_int rfl ?_
  refine w_kp ?_
  refine w_nil ?_
  refine w_seq ?_
  refine w_seq ?_
  refine w_reg ?_
  refine w_mv_int (evs' gse) ?_
  refine w_ieq rfl rfl (fun c1 => ?_) (fun c1 => ?_)
  ·
    refine w_kp ?_
    refine w_nil ?_
    refine w_cond (evs' gse) (fun _ => ?_) (fun hh => nomatch hh)
    refine w_seq ?_
    refine w_reg ?_
    refine w_mv_int rfl ?_
    refine w_kp ?_
    refine w_nil ?_
    refine w_ret ?_
    refine ens_ret1 gse ?_
    have e : waitF l ppm = 0 := by unfold waitF; rw [if_pos c1]
    rw [e] at k
    exact k
  ·
    have hm := hm c1
    refine w_kp ?_
    refine w_nil ?_
    refine w_cond (evs' gse) (fun hh => nomatch hh) (fun _ => ?_)
    refine w_skip ?_
    refine w_seq ?_
    refine w_reg ?_
    refine w_mv_int (evs' (gsn rfl gse)) ?_
    refine w_sub rfl rfl (wr64 (by omega) (by omega)) ?_
    refine w_mv_int (evs' (gsn rfl (gsn rfl (gsn rfl rfl)))) ?_
    refine w_call (limited_ok _ _ _ _ _ ?_)
    refine w_add rfl rfl (wr64 (by omega) (by omega)) ?_
    refine w_mul rfl rfl (wr64 (by omega) (by omega)) ?_
    refine w_call (up_ok _ _ _ _ (by omega) (by omega) ?_)
    refine w_add rfl rfl (wr64 (by omega) (by omega)) ?_
    refine w_mv_int rfl ?_
    refine w_kp ?_
    refine w_nil ?_
    refine w_ret ?_
    refine ens_ret1 gse ?_
    have e : waitF l ppm = ((lim l 1099511627776 - 1) * (1000000 + lim ppm 100000) + 1000000 - 1) / 1000000 + 1 := by unfold waitF; rw [if_neg c1]
    rw [e] at k
    exact k
theorem newIssuer_ok (L d : Nat) (len ppm : Int) (h : H) {Q : V → H → Prop} (h0 : 1 ≤ len) (h1 : len ≤ 1073741824) (k : ∀ b h', h'.get b = some (.cells [.int .i64 len, .int .i64 ppm, .int .i64 0, .nilsl] false) → Keep h h' [] → b.num = h.next.num → h'.next.num = h.next.num + 1 → Q (.tup [.ptr b 0, .niliface]) h') :
    Ens (call fnt L (d + 1) p17 [.int .i64 len, .int .i64 ppm] h) Q := by
  refine w_fn (af := af17) rfl rfl rfl ?_
  refine w_seq ?_
  refine w_reg ?_
  refine w_mv_nil rfl ?_
  refine w_kp ?_
  refine w_mv_nif rfl ?_
  refine w_kp ?_
  refine w_nil ?_
  refine w_seq ?_
  refine w_seq ?_
  refine w_reg ?_
  refine w_mv_int (evs' (gsn rfl (gsn rfl rfl))) ?_
  refine w_lt rfl rfl (fun c1 => by omega) (fun c1 => ?_)
  refine w_mv_bool rfl ?_
  refine w_gop rfl (fun _ => ?_) (fun hh => nomatch hh)
  refine w_mv_int (evs' (gsn rfl (gsn rfl rfl))) ?_
  refine w_gop rfl (fun _ => ?_) (fun hh => nomatch hh)
  refine w_gt rfl rfl (fun c2 => by omega) (fun c2 => ?_)
  refine w_pick rfl (fun hh => nomatch hh) (fun _ => ?_)
  refine w_mv_bool rfl ?_
  refine w_kp ?_
  refine w_nil ?_
  refine w_cond (evs' gse) (fun hh => nomatch hh) (fun _ => ?_)
  refine w_skip ?_
  refine w_seq ?_
  refine w_reg ?_
  refine w_mv_int (evs' (gsn rfl (gsn rfl (gsn rfl rfl)))) ?_
  refine w_mv_int (evs' (gsn rfl (gsn rfl (gsn rfl rfl)))) ?_
  refine w_eq (v := .agg [.int .i64 len, .int .i64 ppm, .int .i64 0, .nilsl]) rfl ?_
  refine m_box rfl rfl (fun n1 h1 hb_n1 kp1 nn1 hn1 => ?_)
  have lt_n1 : n1.num < h1.next.num := by omega
  refine w_mv_ptr rfl ?_
  refine w_kp ?_
  refine w_mv_nif rfl ?_
  refine w_kp ?_
  refine w_nil ?_
  refine w_ret ?_
  refine ens_ret2 (gsn rfl gse) gse ?_
  exact k _ _ hb_n1 kp1 nn1 hn1
abbrev Ent := List Nat × Int × Int
abbrev ge (y : Ent) : List V := [.str y.1, .int .i64 y.2.1, .int .i64 y.2.2]
def clearF (n : Int) (out : Int) (l : List Ent) : Int := l.foldl (fun o y => if y.2.1 < n then max o y.2.2 else o) out
theorem clearF_at {n out : Int} {l : List Ent} {i : Nat} {y : Ent} (h : l[i]? = some y) : clearF n out (l.take (i + 1)) = if y.2.1 < n then max (clearF n out (l.take i)) y.2.2 else clearF n out (l.take i) := by
  unfold clearF
  rw [take_at h, List.foldl_append]
  rfl
theorem clear_ok (L d : Nat) (h : H) (b : P) (len ppm now0 n now : Int) (vl : V) (F : List P) (l : List Ent) {Q : V → H → Prop}
    (hb_b : h.get b = some (.cells [.int .i64 len, .int .i64 ppm, .int .i64 now0, vl] false)) (S : Sl 3 h vl F (l.map ge)) (nf_b_S : b ∉ F) (lt_b : b.num < h.next.num) (hxs : l.length ≤ 1000) (hL : 1001 ≤ L)
    (k : ∀ h', h'.get b = some (.cells [.int .i64 len, .int .i64 ppm, .int .i64 (rd now now0), vl] false) → Sl 3 h' vl F (l.map ge) → Keep h h' [b] → Q (.int .i64 (clearF n (rd now now0) l)) h') :
    Ens (call fnt L (d + 2) p24 [.ptr b 0, .int .i64 n, .int .i64 now] h) Q := by
  have hlen : (l.map ge).length = l.length := List.length_map _
  refine w_fn (af := af24) rfl rfl rfl ?_
  refine w_seq ?_
  refine w_reg ?_
  refine w_mv_int rfl ?_
  refine w_kp ?_
  refine w_nil ?_
  refine w_seq ?_
  refine w_seq ?_
  refine w_reg ?_
  refine w_mv_ptr (evs' (gsn rfl rfl)) ?_
  refine w_eqv (t' := false) rfl rfl rfl rfl ?_
  refine w_kp ?_
  refine w_nil ?_
  refine w_cond (evs' gse) (fun hh => nomatch hh) (fun _ => ?_)
  refine w_skip ?_
  refine w_seq ?_
  refine w_reg ?_
  refine w_mv_ptr (evs' (gsn rfl (gsn rfl rfl))) ?_
  refine w_mv_int (evs' (gsn rfl (gsn rfl rfl))) ?_
  refine w_mv_ptr (evs' (gsn rfl (gsn rfl rfl))) ?_
  refine w_nck rfl ?_
  refine w_fa rfl ?_
  refine w_ld rfl hb_b rfl ?_
  refine w_call (reading_ok _ _ _ _ _ ?_)
  refine w_nck rfl ?_
  refine w_fa rfl ?_
  refine m_st_int hb_b rfl rfl rfl (fun h1 hq kp1 => ?_)
  have S := S.keep kp1 (nF1 nf_b_S)
  have lt_b := kp1.lt lt_b
  have hb_b := hq
  refine w_nil ?_
  refine w_seq ?_
  refine w_reg ?_
  refine w_mv_ptr (evs' (gsn rfl (gsn rfl rfl))) ?_
  refine w_nck rfl ?_
  refine w_fa rfl ?_
  refine w_ld rfl hb_b rfl ?_
  refine w_mv_int rfl ?_
  refine w_kp ?_
  refine w_nil ?_
  refine w_seq ?_
  refine w_seq ?_
  refine w_reg ?_
  refine w_mv_ptr (evs' (gsn rfl (gsn rfl (gsn rfl rfl)))) ?_
  refine w_nck rfl ?_
  refine w_fa rfl ?_
  refine w_ld rfl hb_b rfl ?_
  refine w_kp ?_
  refine w_sl_len S rfl ?_
  refine w_kp ?_
  refine w_mv_int rfl ?_
  refine w_kp ?_
  refine w_nil ?_
  refine w_block ?_
  refine w_loop (fun kk fr hh => ∃ (i : Int) (out : Int), fr.get p0 = some (.ptr b 0) ∧ fr.get p1 = some (.int .i64 n) ∧ fr.get p7 = some (.int .i64 out) ∧ fr.get p28 = some (vl) ∧ fr.get p29 = some (.int .i64 ((l.map ge).length : Int)) ∧ fr.get p30 = some (.int .i64 i) ∧ (0 ≤ i) ∧ (i + (kk : Int) = l.length) ∧ (out = clearF n (rd now now0) (l.take i.toNat)) ∧ (Keep h hh [b]) ∧ (hh.get b = some (.cells [.int .i64 len, .int .i64 ppm, .int .i64 (rd now now0), vl] false)) ∧ (b.num < hh.next.num) ∧ (Sl 3 hh vl F (l.map ge)) ∧ (b ∉ F)) (k := l.length) (by omega) ⟨0, rd now now0, (gsn rfl (gsn rfl (gsn rfl (gsn rfl (gsn rfl (gsn rfl rfl)))))), (gsn rfl (gsn rfl (gsn rfl (gsn rfl (gsn rfl (gsn rfl rfl)))))), (gsn rfl (gsn rfl (gsn rfl gse))), (gsn rfl (gsn rfl gse)), (gsn rfl gse), gse, (by omega), (by omega), (rfl), (((Keep.refl h [b]).trb kp1 (by simp))), hb_b, lt_b, S, nf_b_S⟩ ?_
  rintro kk fr hh ⟨i, out, f_p0, f_p1, f_p7, f_p28, f_p29, f_p30, hi, hk, ho, kp0, hb_b, lt_b, S, nf_b_S⟩
  refine w_seq ?_
  refine w_reg ?_
  refine w_lt (evs' f_p30) (evs' f_p29) (fun c1 => ?_) (fun c1 => ?_)
  ·
    refine w_kp ?_
    refine w_nil ?_
    refine w_seq ?_
    refine w_cond (evs' gse) (fun _ => ?_) (fun hh => nomatch hh)
    refine w_skip ?_
    refine w_seq ?_
    refine w_block ?_
    refine w_seq ?_
    refine w_reg ?_
    refine w_sl_ix S (evs' (gsn rfl f_p28)) (evs' (gsn rfl f_p30)) (by omega) (by omega) (fun s2 o2 cs2 e2 hs2 he2 ht2 hf2 => ?_)
    obtain ⟨y2, hy2, rfl⟩ := map_at he2
    refine w_ldn rfl hs2 ht2 ?_
    refine m_alloc (fun n3 h3 hb_n3 kp3 nn3 hn3 => ?_)
    have nf_n3_S := S.new nn3
    have hs2 := kp3.get hs2 (S.lt _ hf2) (nF0 _ hf2)
    have hb_b := kp3.get hb_b lt_b ni0
    have S := S.keep kp3 nF0
    have lt_b := kp3.lt lt_b
    have lt_n3 : n3.num < h3.next.num := by omega
    refine w_kp ?_
    refine m_st_agg hb_n3 rfl rfl rfl rfl (fun h4 hq kp4 => ?_)
    have hs2 := kp4.get hs2 (S.lt _ hf2) ((nF1 nf_n3_S) _ hf2)
    have hb_b := kp4.get hb_b lt_b (ni1 (by omega))
    have S := S.keep kp4 (nF1 nf_n3_S)
    have lt_b := kp4.lt lt_b
    have lt_n3 := kp4.lt lt_n3
    have hb_n3 := hq
    refine w_nil ?_
    refine w_seq ?_
    refine w_reg ?_
    refine w_fa (evs' gse) ?_
    refine w_ld rfl hb_n3 rfl ?_
    refine w_mv_int (evs' (gsn rfl (gsn rfl f_p1))) ?_
    refine w_lt rfl rfl (fun c2 => ?_) (fun c2 => ?_)
    ·
      refine w_kp ?_
      refine w_nil ?_
      refine w_cond (evs' gse) (fun _ => ?_) (fun hh => nomatch hh)
      refine w_reg ?_
      refine w_mv_int (evs' (gsn rfl (gsn rfl (gsn rfl f_p7)))) ?_
      refine w_fa (evs' (gsn rfl gse)) ?_
      refine w_ld rfl hb_n3 rfl ?_
      refine w_mx2 rfl rfl ?_
      refine w_mv_int rfl ?_
      refine w_kp ?_
      refine w_nil ?_
      refine w_reg ?_
      refine w_add (evs' (gsn rfl (gsn rfl (gsn rfl (gsn rfl f_p30))))) rfl (wr64 (by omega) (by omega)) ?_
      refine w_mv_int rfl ?_
      refine w_kp ?_
      refine w_nil ?_
      exact ⟨kk - 1, by omega, i + 1, _, (gsn rfl (gsn rfl (gsn rfl (gsn rfl (gsn rfl f_p0))))), (gsn rfl (gsn rfl (gsn rfl (gsn rfl (gsn rfl f_p1))))), (gsn rfl gse), (gsn rfl (gsn rfl (gsn rfl (gsn rfl (gsn rfl f_p28))))), (gsn rfl (gsn rfl (gsn rfl (gsn rfl (gsn rfl f_p29))))), gse, (by omega), (by omega), (by rw [show (i + 1).toNat = i.toNat + 1 by omega, clearF_at hy2, if_pos (by assumption), ho]), (((kp0.tr0 kp3).trn kp4 (Nat.le_trans kp0.1 (Nat.le_of_eq nn3.symm)))), hb_b, lt_b, S, nf_b_S⟩
    ·
      refine w_kp ?_
      refine w_nil ?_
      refine w_cond (evs' gse) (fun hh => nomatch hh) (fun _ => ?_)
      refine w_skip ?_
      refine w_reg ?_
      refine w_add (evs' (gsn rfl (gsn rfl (gsn rfl f_p30)))) rfl (wr64 (by omega) (by omega)) ?_
      refine w_mv_int rfl ?_
      refine w_kp ?_
      refine w_nil ?_
      exact ⟨kk - 1, by omega, i + 1, _, (gsn rfl (gsn rfl (gsn rfl (gsn rfl f_p0)))), (gsn rfl (gsn rfl (gsn rfl (gsn rfl f_p1)))), (gsn rfl (gsn rfl (gsn rfl (gsn rfl f_p7)))), (gsn rfl (gsn rfl (gsn rfl (gsn rfl f_p28)))), (gsn rfl (gsn rfl (gsn rfl (gsn rfl f_p29)))), gse, (by omega), (by omega), (by rw [show (i + 1).toNat = i.toNat + 1 by omega, clearF_at hy2, if_neg (by assumption), ho]), (((kp0.tr0 kp3).trn kp4 (Nat.le_trans kp0.1 (Nat.le_of_eq nn3.symm)))), hb_b, lt_b, S, nf_b_S⟩
  ·
    refine w_kp ?_
    refine w_nil ?_
    refine w_seq ?_
    refine w_cond (evs' gse) (fun hh => nomatch hh) (fun _ => ?_)
    refine w_exit ?_
    refine w_seq ?_
    refine w_reg ?_
    refine w_mv_int (evs' (gsn rfl f_p7)) ?_
    refine w_mv_int rfl ?_
    refine w_kp ?_
    refine w_nil ?_
    refine w_ret ?_
    refine ens_ret1 gse ?_
    rw [ho, List.take_of_length_le (by omega)]
    exact k _ hb_b S kp0
def blocks (c : List Nat) (n now : Int) (y : Ent) : Prop := y.1 = c ∧ y.2.1 < n ∧ now < y.2.2
theorem free_ok (L d : Nat) (h : H) (b : P) (len ppm now0 n now : Int) (c : List Nat) (vl : V) (F : List P) (l : List Ent) {Q : V → H → Prop}
    (hb_b : h.get b = some (.cells [.int .i64 len, .int .i64 ppm, .int .i64 now0, vl] false)) (S : Sl 3 h vl F (l.map ge)) (nf_b_S : b ∉ F) (lt_b : b.num < h.next.num) (hxs : l.length ≤ 1000) (hL : 1001 ≤ L)
    (k1 : ∀ h', (∀ y ∈ l, ¬ blocks c n (rd now now0) y) → h'.get b = some (.cells [.int .i64 len, .int .i64 ppm, .int .i64 (rd now now0), vl] false) → Sl 3 h' vl F (l.map ge) → Keep h h' [b] → Q (.bool true) h')
    (k2 : ∀ h', (∃ y ∈ l, blocks c n (rd now now0) y) → h'.get b = some (.cells [.int .i64 len, .int .i64 ppm, .int .i64 (rd now now0), vl] false) → Sl 3 h' vl F (l.map ge) → Keep h h' [b] → Q (.bool false) h') :
    Ens (call fnt L (d + 2) p20 [.ptr b 0, .str c, .int .i64 n, .int .i64 now] h) Q := by
  have hlen : (l.map ge).length = l.length := List.length_map _
  refine w_fn (af := af20) rfl rfl rfl ?_
  refine w_seq ?_
  refine w_reg ?_
  refine w_mv_bool rfl ?_
  refine w_kp ?_
  refine w_nil ?_
  refine w_seq ?_
  refine w_seq ?_
  refine w_reg ?_
  refine w_mv_ptr (evs' (gsn rfl rfl)) ?_
  refine w_eqv (t' := false) rfl rfl rfl rfl ?_
  refine w_kp ?_
  refine w_nil ?_
  refine w_cond (evs' gse) (fun hh => nomatch hh) (fun _ => ?_)
  refine w_skip ?_
  refine w_seq ?_
  refine w_reg ?_
  refine w_mv_ptr (evs' (gsn rfl (gsn rfl rfl))) ?_
  refine w_mv_int (evs' (gsn rfl (gsn rfl rfl))) ?_
  refine w_mv_ptr (evs' (gsn rfl (gsn rfl rfl))) ?_
  refine w_nck rfl ?_
  refine w_fa rfl ?_
  refine w_ld rfl hb_b rfl ?_
  refine w_call (reading_ok _ _ _ _ _ ?_)
  refine w_nck rfl ?_
  refine w_fa rfl ?_
  refine m_st_int hb_b rfl rfl rfl (fun h1 hq kp1 => ?_)
  have S := S.keep kp1 (nF1 nf_b_S)
  have lt_b := kp1.lt lt_b
  have hb_b := hq
  refine w_nil ?_
  refine w_seq ?_
  refine w_seq ?_
  refine w_reg ?_
  refine w_mv_ptr (evs' (gsn rfl (gsn rfl rfl))) ?_
  refine w_nck rfl ?_
  refine w_fa rfl ?_
  refine w_ld rfl hb_b rfl ?_
  refine w_kp ?_
  refine w_sl_len S rfl ?_
  refine w_kp ?_
  refine w_mv_int rfl ?_
  refine w_kp ?_
  refine w_nil ?_
  refine w_block ?_
  refine w_loop (fun kk fr hh => ∃ (i : Int), fr.get p0 = some (.ptr b 0) ∧ fr.get p1 = some (.str c) ∧ fr.get p2 = some (.int .i64 n) ∧ fr.get p25 = some (vl) ∧ fr.get p26 = some (.int .i64 ((l.map ge).length : Int)) ∧ fr.get p27 = some (.int .i64 i) ∧ (0 ≤ i) ∧ (i + (kk : Int) = l.length) ∧ (∀ (j : Nat) (y : Ent), l[j]? = some y → (j : Int) < i → ¬ blocks c n (rd now now0) y) ∧ (Keep h hh [b]) ∧ (hh.get b = some (.cells [.int .i64 len, .int .i64 ppm, .int .i64 (rd now now0), vl] false)) ∧ (b.num < hh.next.num) ∧ (Sl 3 hh vl F (l.map ge)) ∧ (b ∉ F)) (k := l.length) (by omega) ⟨0, (gsn rfl (gsn rfl (gsn rfl (gsn rfl (gsn rfl rfl))))), (gsn rfl (gsn rfl (gsn rfl (gsn rfl (gsn rfl rfl))))), (gsn rfl (gsn rfl (gsn rfl (gsn rfl (gsn rfl rfl))))), (gsn rfl (gsn rfl gse)), (gsn rfl gse), gse, (by omega), (by omega), (fun j y hj hlt => by omega), (((Keep.refl h [b]).trb kp1 (by simp))), hb_b, lt_b, S, nf_b_S⟩ ?_
  rintro kk fr hh ⟨i, f_p0, f_p1, f_p2, f_p25, f_p26, f_p27, hi, hk, ho, kp0, hb_b, lt_b, S, nf_b_S⟩
  refine w_seq ?_
  refine w_reg ?_
  refine w_lt (evs' f_p27) (evs' f_p26) (fun c1 => ?_) (fun c1 => ?_)
  ·
    refine w_kp ?_
    refine w_nil ?_
    refine w_seq ?_
    refine w_cond (evs' gse) (fun _ => ?_) (fun hh => nomatch hh)
    refine w_skip ?_
    refine w_seq ?_
    refine w_block ?_
    refine w_seq ?_
    refine w_reg ?_
    refine w_sl_ix S (evs' (gsn rfl f_p25)) (evs' (gsn rfl f_p27)) (by omega) (by omega) (fun s2 o2 cs2 e2 hs2 he2 ht2 hf2 => ?_)
    obtain ⟨y2, hy2, rfl⟩ := map_at he2
    refine w_ldn rfl hs2 ht2 ?_
    refine m_alloc (fun n3 h3 hb_n3 kp3 nn3 hn3 => ?_)
    have nf_n3_S := S.new nn3
    have hs2 := kp3.get hs2 (S.lt _ hf2) (nF0 _ hf2)
    have hb_b := kp3.get hb_b lt_b ni0
    have S := S.keep kp3 nF0
    have lt_b := kp3.lt lt_b
    have lt_n3 : n3.num < h3.next.num := by omega
    refine w_kp ?_
    refine m_st_agg hb_n3 rfl rfl rfl rfl (fun h4 hq kp4 => ?_)
    have hs2 := kp4.get hs2 (S.lt _ hf2) ((nF1 nf_n3_S) _ hf2)
    have hb_b := kp4.get hb_b lt_b (ni1 (by omega))
    have S := S.keep kp4 (nF1 nf_n3_S)
    have lt_b := kp4.lt lt_b
    have lt_n3 := kp4.lt lt_n3
    have hb_n3 := hq
    refine w_nil ?_
    refine w_seq ?_
    refine w_reg ?_
    refine w_fa (evs' gse) ?_
    refine w_ld rfl hb_n3 rfl ?_
    refine w_mv_str (evs' (gsn rfl (gsn rfl f_p1))) ?_
    refine w_seq_str rfl rfl (fun c2 => ?_) (fun c2 => ?_)
    ·
      refine w_mv_bool rfl ?_
      refine w_gop rfl (fun _ => ?_) (fun hh => nomatch hh)
      refine w_fa (evs' gse) ?_
      refine w_gop rfl (fun _ => ?_) (fun hh => nomatch hh)
      refine w_ld rfl hb_n3 rfl ?_
      refine w_gop rfl (fun _ => ?_) (fun hh => nomatch hh)
      refine w_mv_int (evs' (gsn rfl (gsn rfl f_p2))) ?_
      refine w_gop rfl (fun _ => ?_) (fun hh => nomatch hh)
      refine w_lt rfl rfl (fun c3 => ?_) (fun c3 => ?_)
      ·
        refine w_pick rfl (fun _ => ?_) (fun hh => nomatch hh)
        refine w_mv_bool rfl ?_
        refine w_mv_bool rfl ?_
        refine w_gop rfl (fun _ => ?_) (fun hh => nomatch hh)
        refine w_fa (evs' gse) ?_
        refine w_gop rfl (fun _ => ?_) (fun hh => nomatch hh)
        refine w_ld rfl hb_n3 rfl ?_
        refine w_gop rfl (fun _ => ?_) (fun hh => nomatch hh)
        refine w_mv_ptr (evs' (gsn rfl (gsn rfl f_p0))) ?_
        refine w_gop rfl (fun _ => ?_) (fun hh => nomatch hh)
        refine w_nck rfl ?_
        refine w_gop rfl (fun _ => ?_) (fun hh => nomatch hh)
        refine w_fa rfl ?_
        refine w_gop rfl (fun _ => ?_) (fun hh => nomatch hh)
        refine w_ld rfl hb_b rfl ?_
        refine w_gop rfl (fun _ => ?_) (fun hh => nomatch hh)
        refine w_gt rfl rfl (fun c4 => ?_) (fun c4 => ?_)
        ·
          refine w_pick rfl (fun _ => ?_) (fun hh => nomatch hh)
          refine w_mv_bool rfl ?_
          refine w_slot (v := .bool true) rfl ?_
          refine w_nil ?_
          refine w_cond (evs' gse) (fun _ => ?_) (fun hh => nomatch hh)
          refine w_seq ?_
          refine w_reg ?_
          refine w_mv_bool rfl ?_
          refine w_kp ?_
          refine w_nil ?_
          refine w_ret ?_
          refine ens_ret1 gse ?_
          exact k2 _ ⟨y2, List.mem_of_getElem? hy2, c2, by assumption, by assumption⟩ hb_b S ((kp0.tr0 kp3).trn kp4 (Nat.le_trans kp0.1 (Nat.le_of_eq nn3.symm)))
        ·
          refine w_pick rfl (fun _ => ?_) (fun hh => nomatch hh)
          refine w_mv_bool rfl ?_
          refine w_slot (v := .bool false) rfl ?_
          refine w_nil ?_
          refine w_cond (evs' gse) (fun hh => nomatch hh) (fun _ => ?_)
          refine w_skip ?_
          refine w_reg ?_
          refine w_add (evs' (gsn rfl (gsn rfl (gsn rfl f_p27)))) rfl (wr64 (by omega) (by omega)) ?_
          refine w_mv_int rfl ?_
          refine w_kp ?_
          refine w_nil ?_
          have hnew : ∀ (j : Nat) (y : Ent), l[j]? = some y → (j : Int) < i + 1 → ¬ blocks c n (rd now now0) y := by
            intro j y hj hlt
            by_cases hji : (j : Int) < i
            · exact ho j y hj hji
            · have : j = i.toNat := by omega
              rw [this, hy2] at hj
              obtain rfl := Option.some.inj hj
              rintro ⟨q1, q2, q3⟩
              first | exact c2 q1 | omega
          exact ⟨kk - 1, by omega, i + 1, (gsn rfl (gsn rfl (gsn rfl (gsn rfl f_p0)))), (gsn rfl (gsn rfl (gsn rfl (gsn rfl f_p1)))), (gsn rfl (gsn rfl (gsn rfl (gsn rfl f_p2)))), (gsn rfl (gsn rfl (gsn rfl (gsn rfl f_p25)))), (gsn rfl (gsn rfl (gsn rfl (gsn rfl f_p26)))), gse, (by omega), (by omega), (hnew), (((kp0.tr0 kp3).trn kp4 (Nat.le_trans kp0.1 (Nat.le_of_eq nn3.symm)))), hb_b, lt_b, S, nf_b_S⟩
      ·
        refine w_pick rfl (fun _ => ?_) (fun hh => nomatch hh)
        refine w_mv_bool rfl ?_
        refine w_mv_bool rfl ?_
        refine w_gop rfl (fun hh => nomatch hh) (fun _ => ?_)
        refine w_gop rfl (fun hh => nomatch hh) (fun _ => ?_)
        refine w_gop rfl (fun hh => nomatch hh) (fun _ => ?_)
        refine w_gop rfl (fun hh => nomatch hh) (fun _ => ?_)
        refine w_gop rfl (fun hh => nomatch hh) (fun _ => ?_)
        refine w_gop rfl (fun hh => nomatch hh) (fun _ => ?_)
        refine w_gop rfl (fun hh => nomatch hh) (fun _ => ?_)
        refine w_pick rfl (fun hh => nomatch hh) (fun _ => ?_)
        refine w_mv_bool rfl ?_
        refine w_slot (v := .bool false) rfl ?_
        refine w_nil ?_
        refine w_cond (evs' gse) (fun hh => nomatch hh) (fun _ => ?_)
        refine w_skip ?_
        refine w_reg ?_
        refine w_add (evs' (gsn rfl (gsn rfl (gsn rfl f_p27)))) rfl (wr64 (by omega) (by omega)) ?_
        refine w_mv_int rfl ?_
        refine w_kp ?_
        refine w_nil ?_
        have hnew : ∀ (j : Nat) (y : Ent), l[j]? = some y → (j : Int) < i + 1 → ¬ blocks c n (rd now now0) y := by
          intro j y hj hlt
          by_cases hji : (j : Int) < i
          · exact ho j y hj hji
          · have : j = i.toNat := by omega
            rw [this, hy2] at hj
            obtain rfl := Option.some.inj hj
            rintro ⟨q1, q2, q3⟩
            first | exact c2 q1 | omega
        exact ⟨kk - 1, by omega, i + 1, (gsn rfl (gsn rfl (gsn rfl (gsn rfl f_p0)))), (gsn rfl (gsn rfl (gsn rfl (gsn rfl f_p1)))), (gsn rfl (gsn rfl (gsn rfl (gsn rfl f_p2)))), (gsn rfl (gsn rfl (gsn rfl (gsn rfl f_p25)))), (gsn rfl (gsn rfl (gsn rfl (gsn rfl f_p26)))), gse, (by omega), (by omega), (hnew), (((kp0.tr0 kp3).trn kp4 (Nat.le_trans kp0.1 (Nat.le_of_eq nn3.symm)))), hb_b, lt_b, S, nf_b_S⟩
    ·
      refine w_mv_bool rfl ?_
      refine w_gop rfl (fun hh => nomatch hh) (fun _ => ?_)
      refine w_gop rfl (fun hh => nomatch hh) (fun _ => ?_)
      refine w_gop rfl (fun hh => nomatch hh) (fun _ => ?_)
      refine w_gop rfl (fun hh => nomatch hh) (fun _ => ?_)
      refine w_pick rfl (fun hh => nomatch hh) (fun _ => ?_)
      refine w_mv_bool rfl ?_
      refine w_mv_bool rfl ?_
      refine w_gop rfl (fun hh => nomatch hh) (fun _ => ?_)
      refine w_gop rfl (fun hh => nomatch hh) (fun _ => ?_)
      refine w_gop rfl (fun hh => nomatch hh) (fun _ => ?_)
      refine w_gop rfl (fun hh => nomatch hh) (fun _ => ?_)
      refine w_gop rfl (fun hh => nomatch hh) (fun _ => ?_)
      refine w_gop rfl (fun hh => nomatch hh) (fun _ => ?_)
      refine w_gop rfl (fun hh => nomatch hh) (fun _ => ?_)
      refine w_pick rfl (fun hh => nomatch hh) (fun _ => ?_)
      refine w_mv_bool rfl ?_
      refine w_slot (v := .bool false) rfl ?_
      refine w_nil ?_
      refine w_cond (evs' gse) (fun hh => nomatch hh) (fun _ => ?_)
      refine w_skip ?_
      refine w_reg ?_
      refine w_add (evs' (gsn rfl (gsn rfl (gsn rfl f_p27)))) rfl (wr64 (by omega) (by omega)) ?_
      refine w_mv_int rfl ?_
      refine w_kp ?_
      refine w_nil ?_
      have hnew : ∀ (j : Nat) (y : Ent), l[j]? = some y → (j : Int) < i + 1 → ¬ blocks c n (rd now now0) y := by
        intro j y hj hlt
        by_cases hji : (j : Int) < i
        · exact ho j y hj hji
        · have : j = i.toNat := by omega
          rw [this, hy2] at hj
          obtain rfl := Option.some.inj hj
          rintro ⟨q1, q2, q3⟩
          first | exact c2 q1 | omega
      exact ⟨kk - 1, by omega, i + 1, (gsn rfl (gsn rfl (gsn rfl (gsn rfl f_p0)))), (gsn rfl (gsn rfl (gsn rfl (gsn rfl f_p1)))), (gsn rfl (gsn rfl (gsn rfl (gsn rfl f_p2)))), (gsn rfl (gsn rfl (gsn rfl (gsn rfl f_p25)))), (gsn rfl (gsn rfl (gsn rfl (gsn rfl f_p26)))), gse, (by omega), (by omega), (hnew), (((kp0.tr0 kp3).trn kp4 (Nat.le_trans kp0.1 (Nat.le_of_eq nn3.symm)))), hb_b, lt_b, S, nf_b_S⟩
  ·
    refine w_kp ?_
    refine w_nil ?_
    refine w_seq ?_
    refine w_cond (evs' gse) (fun hh => nomatch hh) (fun _ => ?_)
    refine w_exit ?_
    refine w_seq ?_
    refine w_reg ?_
    refine w_mv_bool rfl ?_
    refine w_kp ?_
    refine w_nil ?_
    refine w_ret ?_
    refine ens_ret1 gse ?_
    exact k1 _ (fun y hy => by obtain ⟨j, hj⟩ := List.getElem?_of_mem hy; exact ho j y hj (by have := (List.getElem?_eq_some_iff.1 hj).1; omega)) hb_b S kp0
theorem grant_ok (L d : Nat) (h : H) (b : P) (len ppm now0 ser num now lim0 : Int) (c : List Nat) (vl : V) (F : List P) (l : List Ent) {Q : V → H → Prop}
    (hb_b : h.get b = some (.cells [.int .i64 len, .int .i64 ppm, .int .i64 now0, vl] false)) (S : Sl 3 h vl F (l.map ge)) (nf_b_S : b ∉ F) (lt_b : b.num < h.next.num) (hxs : l.length ≤ 1000) (hn0 : now0 ≤ 1099511627776)
    (k1 : ∀ h', (ser < 1 ∨ lim0 < 1) → h'.get b = some (.cells [.int .i64 len, .int .i64 ppm, .int .i64 (rd now now0), vl] false) → Sl 3 h' vl F (l.map ge) → Keep h h' (b :: F) → Q (.tup [.agg [.int .i64 0, .int .i64 0, .int .i64 0], .iface 72 (.int .i64 1)]) h')
    (k2 : ∀ h' vl' F', 1 ≤ ser → 1 ≤ lim0 → h'.get b = some (.cells [.int .i64 len, .int .i64 ppm, .int .i64 (rd now now0), vl'] false) → Sl 3 h' vl' F' ((l ++ [(c, max 0 num, rd now now0 + waitF (min len lim0) ppm)]).map ge) → Keep h h' (b :: F) → (∀ c ∈ F', h.next.num ≤ c.num) →
      Q (.tup [.agg [.int .i64 ser, .int .i64 (max 0 num), .int .i64 (min len lim0)], .niliface]) h') :
    Ens (call fnt L (d + 3) p19 [.ptr b 0, .str c, .int .i64 ser, .int .i64 num, .int .i64 now, .int .i64 lim0] h) Q := by
  have hlen : (l.map ge).length = l.length := List.length_map _
  have hrd : 0 ≤ rd now now0 ∧ (rd now now0 ≤ 1099511627776 ∨ rd now now0 ≤ now0) := by unfold rd; omega
  have hwt := waitF_range (l := min len lim0) (ppm := ppm)
  refine w_fn (af := af19) rfl rfl rfl ?_
  refine w_seq ?_
  refine w_reg ?_
  refine m_alloc (fun n1 h1 hb_n1 kp1 nn1 hn1 => ?_)
  have nf_n1_S := S.new nn1
  have hb_b := kp1.get hb_b lt_b ni0
  have S := S.keep kp1 nF0
  have lt_b := kp1.lt lt_b
  have lt_n1 : n1.num < h1.next.num := by omega
  refine w_kp ?_
  refine w_mv_nif rfl ?_
  refine w_kp ?_
  refine w_nil ?_
  refine w_seq ?_
  refine w_seq ?_
  refine w_reg ?_
  refine w_mv_ptr (evs' (gsn rfl (gsn rfl rfl))) ?_
  refine w_eqv (t' := false) rfl rfl rfl rfl ?_
  refine w_kp ?_
  refine w_nil ?_
  refine w_cond (evs' gse) (fun hh => nomatch hh) (fun _ => ?_)
  refine w_skip ?_
  refine w_seq ?_
  refine w_reg ?_
  refine w_mv_ptr (evs' (gsn rfl (gsn rfl (gsn rfl rfl)))) ?_
  refine w_mv_int (evs' (gsn rfl (gsn rfl (gsn rfl rfl)))) ?_
  refine w_mv_ptr (evs' (gsn rfl (gsn rfl (gsn rfl rfl)))) ?_
  refine w_nck rfl ?_
  refine w_fa rfl ?_
  refine w_ld rfl hb_b rfl ?_
  refine w_call (reading_ok _ _ _ _ _ ?_)
  refine w_nck rfl ?_
  refine w_fa rfl ?_
  refine m_st_int hb_b rfl rfl rfl (fun h2 hq kp2 => ?_)
  have hb_n1 := kp2.get hb_n1 lt_n1 (ni1 (by omega))
  have S := S.keep kp2 (nF1 nf_b_S)
  have lt_b := kp2.lt lt_b
  have lt_n1 := kp2.lt lt_n1
  have hb_b := hq
  refine w_nil ?_
  refine w_seq ?_
  refine w_seq ?_
  refine w_reg ?_
  refine w_mv_int (evs' (gsn rfl (gsn rfl (gsn rfl rfl)))) ?_
  refine w_lt rfl rfl (fun c1 => ?_) (fun c1 => ?_)
  ·
    refine w_mv_bool rfl ?_
    refine w_gop rfl (fun hh => nomatch hh) (fun _ => ?_)
    refine w_gop rfl (fun hh => nomatch hh) (fun _ => ?_)
    refine w_pick rfl (fun _ => ?_) (fun hh => nomatch hh)
    refine w_mv_bool rfl ?_
    refine w_kp ?_
    refine w_nil ?_
    refine w_cond (evs' gse) (fun _ => ?_) (fun hh => nomatch hh)
    refine w_seq ?_
    refine w_reg ?_
    refine w_eq (v := .agg [.int .i64 0, .int .i64 0, .int .i64 0]) rfl ?_
    refine w_eq rfl ?_
    refine m_st_agg hb_n1 rfl (evs' (gsn rfl (gsn rfl (gsn rfl gse)))) rfl rfl (fun h3 hq kp3 => ?_)
    have hb_b := kp3.get hb_b lt_b (ni1 (by omega))
    have S := S.keep kp3 (nF1 nf_n1_S)
    have lt_b := kp3.lt lt_b
    have lt_n1 := kp3.lt lt_n1
    have hb_n1 := hq
    refine w_mv_if rfl ?_
    refine w_kp ?_
    refine w_nil ?_
    refine w_ret ?_
    refine ens_retc (gsn rfl (gsn rfl (gsn rfl (gsn rfl gse)))) hb_n1 rfl gse ?_
    exact k1 _ (by first | exact .inl (by assumption) | exact .inr (by assumption)) hb_b S ((((Keep.refl h (b :: F)).tr0 kp1).trb kp2 (by simp)).trn kp3 (Nat.le_trans (Keep.refl h (b :: F)).1 (Nat.le_of_eq nn1.symm)))
  ·
    refine w_mv_bool rfl ?_
    refine w_gop rfl (fun _ => ?_) (fun hh => nomatch hh)
    refine w_mv_int (evs' (gsn rfl (gsn rfl (gsn rfl rfl)))) ?_
    refine w_gop rfl (fun _ => ?_) (fun hh => nomatch hh)
    refine w_lt rfl rfl (fun c2 => ?_) (fun c2 => ?_)
    ·
      refine w_pick rfl (fun hh => nomatch hh) (fun _ => ?_)
      refine w_mv_bool rfl ?_
      refine w_kp ?_
      refine w_nil ?_
      refine w_cond (evs' gse) (fun _ => ?_) (fun hh => nomatch hh)
      refine w_seq ?_
      refine w_reg ?_
      refine w_eq (v := .agg [.int .i64 0, .int .i64 0, .int .i64 0]) rfl ?_
      refine w_eq rfl ?_
      refine m_st_agg hb_n1 rfl (evs' (gsn rfl (gsn rfl (gsn rfl gse)))) rfl rfl (fun h3 hq kp3 => ?_)
      have hb_b := kp3.get hb_b lt_b (ni1 (by omega))
      have S := S.keep kp3 (nF1 nf_n1_S)
      have lt_b := kp3.lt lt_b
      have lt_n1 := kp3.lt lt_n1
      have hb_n1 := hq
      refine w_mv_if rfl ?_
      refine w_kp ?_
      refine w_nil ?_
      refine w_ret ?_
      refine ens_retc (gsn rfl (gsn rfl (gsn rfl (gsn rfl gse)))) hb_n1 rfl gse ?_
      exact k1 _ (by first | exact .inl (by assumption) | exact .inr (by assumption)) hb_b S ((((Keep.refl h (b :: F)).tr0 kp1).trb kp2 (by simp)).trn kp3 (Nat.le_trans (Keep.refl h (b :: F)).1 (Nat.le_of_eq nn1.symm)))
    ·
      refine w_pick rfl (fun hh => nomatch hh) (fun _ => ?_)
      refine w_mv_bool rfl ?_
      refine w_kp ?_
      refine w_nil ?_
      refine w_cond (evs' gse) (fun hh => nomatch hh) (fun _ => ?_)
      refine w_skip ?_
      refine w_seq ?_
      refine w_reg ?_
      refine w_mv_int (evs' (gsn rfl (gsn rfl (gsn rfl (gsn rfl rfl))))) ?_
      refine w_mv_int (evs' (gsn rfl (gsn rfl (gsn rfl (gsn rfl rfl))))) ?_
      refine w_mx2 rfl rfl ?_
      refine w_mv_ptr (evs' (gsn rfl (gsn rfl (gsn rfl (gsn rfl rfl))))) ?_
      refine w_nck rfl ?_
      refine w_fa rfl ?_
      refine w_ld rfl hb_b rfl ?_
      refine w_mv_int (evs' (gsn rfl (gsn rfl (gsn rfl (gsn rfl rfl))))) ?_
      refine w_mn2 rfl rfl ?_
      refine w_eq (v := .agg [.int .i64 ser, .int .i64 (max 0 num), .int .i64 (min len lim0)]) rfl ?_
      refine m_alloc (fun n3 h3 hb_n3 kp3 nn3 hn3 => ?_)
      have nf_n3_S := S.new nn3
      have hb_b := kp3.get hb_b lt_b ni0
      have hb_n1 := kp3.get hb_n1 lt_n1 ni0
      have S := S.keep kp3 nF0
      have lt_b := kp3.lt lt_b
      have lt_n1 := kp3.lt lt_n1
      have lt_n3 : n3.num < h3.next.num := by omega
      refine w_kp ?_
      refine m_st_agg hb_n3 rfl rfl rfl rfl (fun h4 hq kp4 => ?_)
      have hb_b := kp4.get hb_b lt_b (ni1 (by omega))
      have hb_n1 := kp4.get hb_n1 lt_n1 (ni1 (by omega))
      have S := S.keep kp4 (nF1 nf_n3_S)
      have lt_b := kp4.lt lt_b
      have lt_n1 := kp4.lt lt_n1
      have lt_n3 := kp4.lt lt_n3
      have hb_n3 := hq
      refine w_nil ?_
      refine w_seq ?_
      refine w_reg ?_
      refine w_mv_ptr (evs' (gsn rfl (gsn rfl (gsn rfl (gsn rfl (gsn rfl rfl)))))) ?_
      refine w_mv_ptr (evs' (gsn rfl (gsn rfl (gsn rfl (gsn rfl (gsn rfl rfl)))))) ?_
      refine w_nck rfl ?_
      refine w_fa rfl ?_
      refine w_ld rfl hb_b rfl ?_
      refine w_mv_str (evs' (gsn rfl (gsn rfl (gsn rfl (gsn rfl (gsn rfl rfl)))))) ?_
      refine w_fa (evs' gse) ?_
      refine w_ld rfl hb_n3 rfl ?_
      refine w_mv_ptr (evs' (gsn rfl (gsn rfl (gsn rfl (gsn rfl (gsn rfl rfl)))))) ?_
      refine w_nck rfl ?_
      refine w_fa rfl ?_
      refine w_ld rfl hb_b rfl ?_
      refine w_fa (evs' gse) ?_
      refine w_ld rfl hb_n3 rfl ?_
      refine w_mv_ptr (evs' (gsn rfl (gsn rfl (gsn rfl (gsn rfl (gsn rfl rfl)))))) ?_
      refine w_nck rfl ?_
      refine w_fa rfl ?_
      refine w_ld rfl hb_b rfl ?_
      refine w_call (wait_ok _ _ _ _ _ ?_)
      refine w_re_ld rfl hb_b rfl rfl rfl (V.beq_int _ _) ?_
      refine w_re_ld rfl hb_n3 rfl rfl rfl (V.beq_int _ _) ?_
      refine w_re_ld rfl hb_b rfl rfl rfl S.beq ?_
      refine w_add rfl rfl (wr64 (by omega) (by omega)) ?_
      refine w_eq (v := .agg [.str c, .int .i64 (max 0 num), .int .i64 (rd now now0 + waitF (min len lim0) ppm)]) rfl ?_
      refine m_one_agg rfl rfl rfl (fun t5 h5 hb_t5 kp5 nn5 hn5 => ?_)
      have nf_t5_S := S.new nn5
      have hb_b := kp5.get hb_b lt_b ni0
      have hb_n1 := kp5.get hb_n1 lt_n1 ni0
      have hb_n3 := kp5.get hb_n3 lt_n3 ni0
      have S := S.keep kp5 nF0
      have lt_b := kp5.lt lt_b
      have lt_n1 := kp5.lt lt_n1
      have lt_n3 := kp5.lt lt_n3
      refine w_re_ld rfl hb_b rfl rfl rfl S.beq ?_
      refine m_app S hb_t5 rfl (by decide) (by rw [List.length_map]; omega) rfl rfl (fun v6 h6 m6 S6 kp6 nn6 hn6 => ?_)
      have nf_b_S6 : b ∉ [m6] := ni1 (by omega)
      have nf_n1_S6 : n1 ∉ [m6] := ni1 (by omega)
      have nf_n3_S6 : n3 ∉ [m6] := ni1 (by omega)
      have hb_b := kp6.get hb_b lt_b nf_b_S
      have hb_n1 := kp6.get hb_n1 lt_n1 nf_n1_S
      have hb_n3 := kp6.get hb_n3 lt_n3 nf_n3_S
      have lt_b := kp6.lt lt_b
      have lt_n1 := kp6.lt lt_n1
      have lt_n3 := kp6.lt lt_n3
      have S6 : Sl 3 h6 v6 [m6] ((l ++ [(c, max 0 num, rd now now0 + waitF (min len lim0) ppm)]).map ge) := by rw [List.map_append]; exact S6
      refine w_nck rfl ?_
      refine w_fa rfl ?_
      refine m_st_v hb_b S6.flat rfl rfl rfl (fun h7 hq kp7 => ?_)
      have hb_n1 := kp7.get hb_n1 lt_n1 (ni1 (by omega))
      have hb_n3 := kp7.get hb_n3 lt_n3 (ni1 (by omega))
      have S6 := S6.keep kp7 (nF1 nf_b_S6)
      have lt_b := kp7.lt lt_b
      have lt_n1 := kp7.lt lt_n1
      have lt_n3 := kp7.lt lt_n3
      have hb_b := hq
      refine w_nil ?_
      refine w_seq ?_
      refine w_reg ?_
      refine w_ldn (evs' gse) hb_n3 rfl ?_
      refine m_st_agg hb_n1 rfl (evs' (gsn rfl (gsn rfl (gsn rfl (gsn rfl gse))))) rfl rfl (fun h8 hq kp8 => ?_)
      have hb_b := kp8.get hb_b lt_b (ni1 (by omega))
      have hb_n3 := kp8.get hb_n3 lt_n3 (ni1 (by omega))
      have S6 := S6.keep kp8 (nF1 nf_n1_S6)
      have lt_b := kp8.lt lt_b
      have lt_n1 := kp8.lt lt_n1
      have lt_n3 := kp8.lt lt_n3
      have hb_n1 := hq
      refine w_mv_nif rfl ?_
      refine w_kp ?_
      refine w_nil ?_
      refine w_ret ?_
      refine ens_retc (gsn rfl (gsn rfl (gsn rfl (gsn rfl (gsn rfl gse))))) hb_n1 rfl gse ?_
      exact k2 _ _ _ (by omega) (by omega) hb_b S6 (((((((((Keep.refl h (b :: F)).tr0 kp1).trb kp2 (by simp)).tr0 kp3).trn kp4 (Nat.le_trans (((Keep.refl h (b :: F)).tr0 kp1).trb kp2 (by simp)).1 (Nat.le_of_eq nn3.symm))).tr0 kp5).trF kp6 (fun c hc => .inl (by simp [hc]))).trb kp7 (by simp)).trn kp8 (Nat.le_trans (Keep.refl h (b :: F)).1 (Nat.le_of_eq nn1.symm))) (fun c hc => by rw [List.mem_singleton.1 hc, nn6]; exact ((((((Keep.refl h (b :: F)).tr0 kp1).trb kp2 (by simp)).tr0 kp3).trn kp4 (Nat.le_trans (((Keep.refl h (b :: F)).tr0 kp1).trb kp2 (by simp)).1 (Nat.le_of_eq nn3.symm))).tr0 kp5).1)
theorem filter_at {p : Ent → Bool} {l : List Ent} {i : Nat} {y : Ent} (h : l[i]? = some y) : (l.take (i + 1)).filter p = (l.take i).filter p ++ (if p y then [y] else []) := by
  rw [take_at h, List.filter_append]
  cases hp : p y <;> simp [hp]
theorem forget_ok (L d : Nat) (h : H) (b : P) (len ppm now0 now : Int) (vl : V) (F : List P) (l : List Ent) {Q : V → H → Prop}
    (hb_b : h.get b = some (.cells [.int .i64 len, .int .i64 ppm, .int .i64 now0, vl] false)) (S : Sl 3 h vl F (l.map ge)) (nf_b_S : b ∉ F) (lt_b : b.num < h.next.num) (hxs : l.length ≤ 1000) (hL : 1001 ≤ L)
    (k : ∀ h' vl' F', h'.get b = some (.cells [.int .i64 len, .int .i64 ppm, .int .i64 (rd now now0), vl'] false) → Sl 3 h' vl' F' ((l.filter (fun y => decide (rd now now0 < y.2.2))).map ge) → Keep h h' [b] → (∀ c ∈ F', h.next.num ≤ c.num) → Q (.tup []) h') :
    Ens (call fnt L (d + 2) p22 [.ptr b 0, .int .i64 now] h) Q := by
  have hlen : (l.map ge).length = l.length := List.length_map _
  refine w_fn (af := af22) rfl rfl rfl ?_
  refine w_seq ?_
  refine w_seq ?_
  refine w_reg ?_
  refine w_mv_ptr (evs' rfl) ?_
  refine w_eqv (t' := false) rfl rfl rfl rfl ?_
  refine w_kp ?_
  refine w_nil ?_
  refine w_cond (evs' gse) (fun hh => nomatch hh) (fun _ => ?_)
  refine w_skip ?_
  refine w_seq ?_
  refine w_reg ?_
  refine w_mv_ptr (evs' (gsn rfl rfl)) ?_
  refine w_mv_int (evs' (gsn rfl rfl)) ?_
  refine w_mv_ptr (evs' (gsn rfl rfl)) ?_
  refine w_nck rfl ?_
  refine w_fa rfl ?_
  refine w_ld rfl hb_b rfl ?_
  refine w_call (reading_ok _ _ _ _ _ ?_)
  refine w_nck rfl ?_
  refine w_fa rfl ?_
  refine m_st_int hb_b rfl rfl rfl (fun h1 hq kp1 => ?_)
  have S := S.keep kp1 (nF1 nf_b_S)
  have lt_b := kp1.lt lt_b
  have hb_b := hq
  refine w_nil ?_
  refine w_seq ?_
  refine w_reg ?_
  refine w_mv_nilsl rfl ?_
  refine w_kp ?_
  refine w_nil ?_
  refine w_seq ?_
  refine w_seq ?_
  refine w_reg ?_
  refine w_mv_ptr (evs' (gsn rfl (gsn rfl rfl))) ?_
  refine w_nck rfl ?_
  refine w_fa rfl ?_
  refine w_ld rfl hb_b rfl ?_
  refine w_kp ?_
  refine w_sl_len S rfl ?_
  refine w_kp ?_
  refine w_mv_int rfl ?_
  refine w_kp ?_
  refine w_nil ?_
  refine w_block ?_
  have R : Sl 3 h1 .nilsl [] (((l.take (0 : Int).toNat).filter (fun y => decide (rd now now0 < y.2.2))).map ge) := Sl.nilsl 3 _
  have nf_b_R : b ∉ ([] : List P) := ni0
  have dj_S_R : ∀ x ∈ F, x ∉ ([] : List P) := nF0
  have dj_R_S : ∀ x ∈ ([] : List P), x ∉ F := fun x hx => nomatch hx
  refine w_loop (fun kk fr hh => ∃ (i : Int) (vr : V) (FR : List P), fr.get p0 = some (.ptr b 0) ∧ fr.get p4 = some (vr) ∧ fr.get p21 = some (vl) ∧ fr.get p22 = some (.int .i64 ((l.map ge).length : Int)) ∧ fr.get p23 = some (.int .i64 i) ∧ (0 ≤ i) ∧ (i + (kk : Int) = l.length) ∧ (Keep h hh [b]) ∧ (∀ c ∈ FR, h.next.num ≤ c.num) ∧ (hh.get b = some (.cells [.int .i64 len, .int .i64 ppm, .int .i64 (rd now now0), vl] false)) ∧ (b.num < hh.next.num) ∧ (Sl 3 hh vl F (l.map ge)) ∧ (Sl 3 hh vr FR (((l.take i.toNat).filter (fun y => decide (rd now now0 < y.2.2))).map ge)) ∧ (b ∉ F) ∧ (b ∉ FR) ∧ (∀ x ∈ F, x ∉ FR) ∧ (∀ x ∈ FR, x ∉ F)) (k := l.length) (by omega) ⟨0, .nilsl, [], (gsn rfl (gsn rfl (gsn rfl (gsn rfl (gsn rfl rfl))))), (gsn rfl (gsn rfl (gsn rfl gse))), (gsn rfl (gsn rfl gse)), (gsn rfl gse), gse, (by omega), (by omega), (((Keep.refl h [b]).trb kp1 (by simp))), (fun c hc => nomatch hc), hb_b, lt_b, S, R, nf_b_S, nf_b_R, dj_S_R, dj_R_S⟩ ?_
  rintro kk fr hh ⟨i, vr, FR, f_p0, f_p4, f_p21, f_p22, f_p23, hi, hk, kp0, hRf, hb_b, lt_b, S, R, nf_b_S, nf_b_R, dj_S_R, dj_R_S⟩
  refine w_seq ?_
  refine w_reg ?_
  refine w_lt (evs' f_p23) (evs' f_p22) (fun c1 => ?_) (fun c1 => ?_)
  ·
    refine w_kp ?_
    refine w_nil ?_
    refine w_seq ?_
    refine w_cond (evs' gse) (fun _ => ?_) (fun hh => nomatch hh)
    refine w_skip ?_
    refine w_seq ?_
    refine w_block ?_
    refine w_seq ?_
    refine w_reg ?_
    refine w_sl_ix S (evs' (gsn rfl f_p21)) (evs' (gsn rfl f_p23)) (by omega) (by omega) (fun s2 o2 cs2 e2 hs2 he2 ht2 hf2 => ?_)
    obtain ⟨y2, hy2, rfl⟩ := map_at he2
    refine w_ldn rfl hs2 ht2 ?_
    refine m_alloc (fun n3 h3 hb_n3 kp3 nn3 hn3 => ?_)
    have nf_n3_S := S.new nn3
    have nf_n3_R := R.new nn3
    have hs2 := kp3.get hs2 (S.lt _ hf2) (nF0 _ hf2)
    have hb_b := kp3.get hb_b lt_b ni0
    have S := S.keep kp3 nF0
    have R := R.keep kp3 nF0
    have lt_b := kp3.lt lt_b
    have lt_n3 : n3.num < h3.next.num := by omega
    refine w_kp ?_
    refine m_st_agg hb_n3 rfl rfl rfl rfl (fun h4 hq kp4 => ?_)
    have hs2 := kp4.get hs2 (S.lt _ hf2) ((nF1 nf_n3_S) _ hf2)
    have hb_b := kp4.get hb_b lt_b (ni1 (by omega))
    have S := S.keep kp4 (nF1 nf_n3_S)
    have R := R.keep kp4 (nF1 nf_n3_R)
    have lt_b := kp4.lt lt_b
    have lt_n3 := kp4.lt lt_n3
    have hb_n3 := hq
    refine w_nil ?_
    refine w_seq ?_
    refine w_reg ?_
    refine w_fa (evs' gse) ?_
    refine w_ld rfl hb_n3 rfl ?_
    refine w_mv_ptr (evs' (gsn rfl (gsn rfl f_p0))) ?_
    refine w_nck rfl ?_
    refine w_fa rfl ?_
    refine w_ld rfl hb_b rfl ?_
    refine w_gt rfl rfl (fun c2 => ?_) (fun c2 => ?_)
    ·
      refine w_slot (v := .bool true) rfl ?_
      refine w_nil ?_
      refine w_cond (evs' gse) (fun _ => ?_) (fun hh => nomatch hh)
      refine w_reg ?_
      refine w_mv (evs' (gsn rfl (gsn rfl (gsn rfl f_p4)))) ?_
      refine w_ldn (evs' (gsn rfl gse)) hb_n3 rfl ?_
      refine m_one_agg rfl rfl rfl (fun t5 h5 hb_t5 kp5 nn5 hn5 => ?_)
      have nf_t5_S := S.new nn5
      have nf_t5_R := R.new nn5
      have hb_b := kp5.get hb_b lt_b ni0
      have hb_n3 := kp5.get hb_n3 lt_n3 ni0
      have S := S.keep kp5 nF0
      have R := R.keep kp5 nF0
      have lt_b := kp5.lt lt_b
      have lt_n3 := kp5.lt lt_n3
      refine m_app R hb_t5 rfl (by decide) (by rw [List.length_map]; have := List.length_filter_le (fun y : Ent => decide (rd now now0 < y.2.2)) (l.take i.toNat); rw [List.length_take] at this; omega) rfl rfl (fun v6 h6 m6 S6 kp6 nn6 hn6 => ?_)
      have nf_b_S6 : b ∉ [m6] := ni1 (by omega)
      have nf_n3_S6 : n3 ∉ [m6] := ni1 (by omega)
      have dj_S_S6 := nF1 (S.new nn6)
      have dj_S6_S := dj_symm dj_S_S6
      have hb_b := kp6.get hb_b lt_b nf_b_R
      have hb_n3 := kp6.get hb_n3 lt_n3 nf_n3_R
      have S := S.keep kp6 dj_S_R
      have lt_b := kp6.lt lt_b
      have lt_n3 := kp6.lt lt_n3
      refine w_mv rfl ?_
      refine w_kp ?_
      refine w_nil ?_
      refine w_reg ?_
      refine w_add (evs' (gsn rfl (gsn rfl (gsn rfl (gsn rfl f_p23))))) rfl (wr64 (by omega) (by omega)) ?_
      refine w_mv_int rfl ?_
      refine w_kp ?_
      refine w_nil ?_
      have RR : Sl 3 h6 v6 [m6] (((l.take (i + 1).toNat).filter (fun y => decide (rd now now0 < y.2.2))).map ge) := by rw [show (i + 1).toNat = i.toNat + 1 by omega, filter_at hy2, if_pos (by simpa using (by assumption : rd now now0 < y2.2.2)), List.map_append]; exact S6
      have nf_b_RR := nf_b_S6
      have dj_S_RR := dj_S_S6
      have dj_RR_S := dj_S6_S
      exact ⟨kk - 1, by omega, i + 1, _, _, (gsn rfl (gsn rfl (gsn rfl (gsn rfl (gsn rfl f_p0))))), (gsn rfl gse), (gsn rfl (gsn rfl (gsn rfl (gsn rfl (gsn rfl f_p21))))), (gsn rfl (gsn rfl (gsn rfl (gsn rfl (gsn rfl f_p22))))), gse, (by omega), (by omega), (((((kp0.tr0 kp3).trn kp4 (Nat.le_trans kp0.1 (Nat.le_of_eq nn3.symm))).tr0 kp5).trF kp6 (fun c hc => .inr (hRf c hc)))), (fun c hc => by rw [List.mem_singleton.1 hc, nn6]; exact (((kp0.tr0 kp3).trn kp4 (Nat.le_trans kp0.1 (Nat.le_of_eq nn3.symm))).tr0 kp5).1), hb_b, lt_b, S, RR, nf_b_S, nf_b_RR, dj_S_RR, dj_RR_S⟩
    ·
      refine w_slot (v := .bool false) rfl ?_
      refine w_nil ?_
      refine w_cond (evs' gse) (fun hh => nomatch hh) (fun _ => ?_)
      refine w_skip ?_
      refine w_reg ?_
      refine w_add (evs' (gsn rfl (gsn rfl (gsn rfl f_p23)))) rfl (wr64 (by omega) (by omega)) ?_
      refine w_mv_int rfl ?_
      refine w_kp ?_
      refine w_nil ?_
      have RR : Sl 3 h4 vr FR (((l.take (i + 1).toNat).filter (fun y => decide (rd now now0 < y.2.2))).map ge) := by rw [show (i + 1).toNat = i.toNat + 1 by omega, filter_at hy2, if_neg (by simpa using (by assumption : ¬ rd now now0 < y2.2.2)), List.append_nil]; exact R
      have nf_b_RR := nf_b_R
      have dj_S_RR := dj_S_R
      have dj_RR_S := dj_R_S
      exact ⟨kk - 1, by omega, i + 1, _, _, (gsn rfl (gsn rfl (gsn rfl (gsn rfl f_p0)))), (gsn rfl (gsn rfl (gsn rfl (gsn rfl f_p4)))), (gsn rfl (gsn rfl (gsn rfl (gsn rfl f_p21)))), (gsn rfl (gsn rfl (gsn rfl (gsn rfl f_p22)))), gse, (by omega), (by omega), (((kp0.tr0 kp3).trn kp4 (Nat.le_trans kp0.1 (Nat.le_of_eq nn3.symm)))), (hRf), hb_b, lt_b, S, RR, nf_b_S, nf_b_RR, dj_S_RR, dj_RR_S⟩
  ·
    have xs_eq : l.take i.toNat = l := List.take_of_length_le (by omega)
    refine w_kp ?_
    refine w_nil ?_
    refine w_seq ?_
    refine w_cond (evs' gse) (fun hh => nomatch hh) (fun _ => ?_)
    refine w_exit ?_
    refine w_reg ?_
    refine w_mv_ptr (evs' (gsn rfl f_p0)) ?_
    refine w_mv (evs' (gsn rfl f_p4)) ?_
    refine w_nck rfl ?_
    refine w_fa rfl ?_
    refine m_st_v hb_b R.flat rfl rfl rfl (fun h2 hq kp2 => ?_)
    have S := S.keep kp2 (nF1 nf_b_S)
    have R := R.keep kp2 (nF1 nf_b_R)
    have lt_b := kp2.lt lt_b
    have hb_b := hq
    refine w_nil ?_
    refine ens_ret0 ?_
    refine k _ _ _ hb_b (xs_eq ▸ R) (kp0.trb kp2 (by simp)) hRf
end Go.Am
namespace Go.Am
set_option maxRecDepth 100000
def chF (x : Int) : List Nat := if x % 4 = 0 then [97] else if x % 4 = 1 then [98] else if x % 4 = 2 then [99] else []
theorem child_ok (L d : Nat) (x : Int) (h : H) {Q : V → H → Prop} (h0 : 0 ≤ x) (k : ∀ h', Keep h h' [] → Q (.str (chF x)) h') : Ens (call fnt L (d + 1) p21 [.int .u8 x] h) Q := by
  refine w_fn (af := af21) rfl rfl rfl ?_
  refine w_seq ?_
  refine w_reg ?_
  refine w_mv_str rfl ?_
  refine w_kp ?_
  refine w_nil ?_
  refine w_seq ?_
  refine w_reg ?_
  refine w_eq (v := .sl h.next 0 4 (.ex 4)) (h' := h.alloc (.cells [.str [97], .str [98], .str [99], .str []] false)) rfl ?_
  refine w_mv_int (evs' (gsn rfl rfl)) ?_
  refine w_remp rfl rfl h0 (by decide) ?_
  refine w_ixa rfl rfl (by omega) (by omega) ?_
  have hv : nth [V.str [97], .str [98], .str [99], .str []] (0 + (x % 4).toNat * 1) = some (.str (chF x)) := by
    have h4 : x % 4 = 0 ∨ x % 4 = 1 ∨ x % 4 = 2 ∨ x % 4 = 3 := by omega
    unfold chF
    rcases h4 with e | e | e | e <;> rw [e] <;> rfl
  refine w_ld rfl (get_al_eq _ _) hv ?_
  refine w_mv_str rfl ?_
  refine w_kp ?_
  refine w_nil ?_
  refine w_ret ?_
  refine ens_ret1 gse ?_
  exact k _ (Keep.refl _ _).alloc
theorem num_nil (L d : Nat) (h : H) : call fnt L (d + 1) p23 [.niliface] h = .ok (.int .i64 0) h := by kernel_rfl
theorem num_one (L d : Nat) (h : H) : call fnt L (d + 1) p23 [.iface 72 (.int .i64 1)] h = .ok (.int .i64 1) h := by kernel_rfl
theorem clearF_spec {n : Int} : ∀ (l : List Ent) (out : Int), out ≤ clearF n out l ∧ (∀ y ∈ l, y.2.1 < n → y.2.2 ≤ clearF n out l) ∧ (clearF n out l = out ∨ ∃ y ∈ l, y.2.1 < n ∧ clearF n out l = y.2.2) := by
  intro l
  induction l with
  | nil => intro out; exact ⟨Int.le_refl _, fun y hy => by simp at hy, .inl rfl⟩
  | cons z l ih =>
    intro out
    obtain ⟨h1, h2, h3⟩ := ih (if z.2.1 < n then max out z.2.2 else out)
    have e : clearF n out (z :: l) = clearF n (if z.2.1 < n then max out z.2.2 else out) l := rfl
    rw [e]
    refine ⟨?_, ?_, ?_⟩
    · by_cases hz : z.2.1 < n
      · rw [if_pos hz] at h1 ⊢; omega
      · rw [if_neg hz] at h1 ⊢; omega
    · intro y hy hn
      rcases List.mem_cons.1 hy with rfl | hy
      · rw [if_pos hn] at h1 ⊢; omega
      · exact h2 y hy hn
    · rcases h3 with h3 | ⟨y, hy, hn, h3⟩
      · by_cases hz : z.2.1 < n
        · rw [if_pos hz] at h3 ⊢
          by_cases hm : out ≤ z.2.2
          · exact .inr ⟨z, List.mem_cons_self, hz, by rw [h3]; omega⟩
          · exact .inl (by rw [h3]; omega)
        · rw [if_neg hz] at h3 ⊢; exact .inl h3
      · exact .inr ⟨y, List.mem_cons_of_mem _ hy, hn, h3⟩
/-- the second list is the first without what has run out -/
def Same (now : Int) (l m : List Ent) : Prop := (∀ y ∈ m, y ∈ l) ∧ ∀ y ∈ l, now < y.2.2 → y ∈ m
theorem clearF_same {n now : Int} {l m : List Ent} (s : Same now l m) : clearF n now m = clearF n now l := by
  obtain ⟨a1, a2, a3⟩ := clearF_spec (n := n) l now
  obtain ⟨b1, b2, b3⟩ := clearF_spec (n := n) m now
  have h1 : clearF n now m ≤ clearF n now l := by
    rcases b3 with b3 | ⟨y, hy, hn, b3⟩
    · omega
    · have := a2 y (s.1 y hy) hn; omega
  have h2 : clearF n now l ≤ clearF n now m := by
    rcases a3 with a3 | ⟨y, hy, hn, a3⟩
    · omega
    · by_cases hl : now < y.2.2
      · have := b2 y (s.2 y hy hl) hn; omega
      · omega
  omega
theorem Same.step {now now' : Int} {l m : List Ent} (s : Same now l m) (hn : now ≤ now') (y : Ent) : Same now' (l ++ [y]) ((m ++ [y]).filter fun z => decide (now' < z.2.2)) := by
  refine ⟨fun z hz => ?_, fun z hz hl => ?_⟩
  · have hz := (List.mem_filter.1 hz).1
    rcases List.mem_append.1 hz with h | h
    · exact List.mem_append_left _ (s.1 z h)
    · exact List.mem_append_right _ h
  · refine List.mem_filter.2 ⟨?_, by simpa using hl⟩
    rcases List.mem_append.1 hz with h | h
    · exact List.mem_append_left _ (s.2 z h (by omega))
    · exact List.mem_append_right _ h
theorem Same.step0 {now now' : Int} {l m : List Ent} (s : Same now l m) (hn : now ≤ now') : Same now' l (m.filter fun z => decide (now' < z.2.2)) :=
  ⟨fun z hz => s.1 z (List.mem_filter.1 hz).1, fun z hz hl => List.mem_filter.2 ⟨s.2 z hz (by omega), by simpa using hl⟩⟩
theorem waitF_small {l ppm : Int} (h : l ≤ 1073741824) : waitF l ppm ≤ 1200000000 := by
  have h1 := lim_range (n := l) (m := 1099511627776) (by decide)
  have h2 := lim_range (n := ppm) (m := 100000) (by decide)
  have h5 : lim l 1099511627776 ≤ 1073741824 := by unfold lim; omega
  unfold waitF
  split
  · omega
  · have h3 := mul_range (a := lim l 1099511627776 - 1) (A := 1073741823) (b := 1000000 + lim ppm 100000) (B := 1100000) (by omega) (by omega) (by omega) (by omega)
    omega
end Go.Am
