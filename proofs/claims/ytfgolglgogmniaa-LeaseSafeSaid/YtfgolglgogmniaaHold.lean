/- Contracts of the holder's and the issuer's methods. -/
import Derived.Test.YtfgolglgogmniaaAmF
import Derived.Test.YtfgolglgogmniaaEach
namespace Go.Am
set_option maxRecDepth 100000
/-- the reading that counts -/
def rd (now last : Int) : Int := max (max last (min now 1099511627776)) 0
theorem reading_ok (L d : Nat) (a b : Int) (h : H) {Q : V → H → Prop} (k : Q (.int .i64 (rd a b)) h) : Ens (call fnt L (d + 1) p26 [.int .i64 a, .int .i64 b] h) Q := by
  refine w_fn (af := af26) rfl rfl rfl ?_
  refine w_seq ?_
  refine w_reg ?_
  refine w_mv_int rfl ?_
  refine w_kp ?_
  refine w_nil ?_
  refine w_seq ?_
  refine w_reg ?_
  refine w_mv_int (evs' (gsn rfl rfl)) ?_
  refine w_mv_int (evs' (gsn rfl rfl)) ?_
  refine w_mn2 rfl rfl ?_
  refine w_mx3 rfl rfl rfl ?_
  refine w_mv_int rfl ?_
  refine w_kp ?_
  refine w_nil ?_
  refine w_ret ?_
  refine ens_ret1 gse ?_
  exact k
theorem newHolder_ok (L d : Nat) (h : H) (ppm : Int) {Q : V → H → Prop} (k : ∀ b h', h'.get b = some (.cells [.int .i64 ppm, .int .i64 0, .int .i64 0, .nilsl, .nilsl] false) → Keep h h' [] → b.num = h.next.num → h'.next.num = h.next.num + 1 → Q (.ptr b 0) h') :
    Ens (call fnt L (d + 1) p9 [.int .i64 ppm] h) Q := by
  refine w_fn (af := af9) rfl rfl rfl ?_
  refine w_seq ?_
  refine w_reg ?_
  refine w_mv_nil rfl ?_
  refine w_kp ?_
  refine w_nil ?_
  refine w_seq ?_
  refine w_reg ?_
  refine w_mv_int (evs' (gsn rfl rfl)) ?_
  refine w_eq (v := .agg [.int .i64 ppm, .int .i64 0, .int .i64 0, .nilsl, .nilsl]) rfl ?_
  refine m_box rfl rfl (fun n1 h1 hb_n1 kp1 nn1 hn1 => ?_)
  have lt_n1 : n1.num < h1.next.num := by omega
  refine w_mv_ptr rfl ?_
  refine w_kp ?_
  refine w_nil ?_
  refine w_ret ?_
  refine ens_ret1 gse ?_
  exact (k _ _ hb_n1 kp1 nn1 hn1)
theorem ask_ok (L d : Nat) (h : H) (b : P) (ppm now0 gr now : Int) (vs vl : V) (F : List P) (xs : List (List V)) {Q : V → H → Prop}
    (hb_b : h.get b = some (.cells [.int .i64 ppm, .int .i64 now0, .int .i64 gr, vs, vl] false)) (S : Sl 1 h vs F xs) (nf_b_S : b ∉ F) (lt_b : b.num < h.next.num) (hxs : xs.length ≤ 16) (h0 : 0 ≤ now0) (h1 : now0 ≤ 1099511627776)
    (k1 : ∀ h', rd now now0 + 1 ≤ gr → h'.get b = some (.cells [.int .i64 ppm, .int .i64 (rd now now0), .int .i64 gr, vs, vl] false) → Sl 1 h' vs F xs → Keep h h' [b] → Q (.int .i64 0) h')
    (k2 : ∀ h' vs' F' xs', gr < rd now now0 + 1 → h'.get b = some (.cells [.int .i64 ppm, .int .i64 (rd now now0), .int .i64 (rd now now0 + 1), vs', vl] false) → Keep h h' (b :: F) →
      Sl 1 h' vs' F' xs' → xs' = (xs ++ [[V.int .i64 (rd now now0 + 1)]]).drop (if 16 < xs.length + 1 then 1 else 0) → (∀ c ∈ F', h.next.num ≤ c.num) → Q (.int .i64 (rd now now0 + 1)) h') :
    Ens (call fnt L (d + 2) p10 [.ptr b 0, .int .i64 now] h) Q := by
  have hrd : 0 ≤ rd now now0 ∧ rd now now0 ≤ 1099511627776 ∧ now0 ≤ rd now now0 := by unfold rd; omega
  refine w_fn (af := af10) rfl rfl rfl ?_
  refine w_seq ?_
  refine w_reg ?_
  refine w_mv_int rfl ?_
  refine w_kp ?_
  refine w_nil ?_
  refine w_seq ?_
  refine w_seq ?_
  refine w_reg ?_
  refine w_mv_ptr (evs' (gsn rfl rfl)) ?_
  refine w_eqv (t' := false) rfl rfl rfl rfl ?_
  refine w_kp ?_
  refine w_nil ?_
  refine w_cond (evs' gse) (fun hh => nomatch hh) (fun _ => ?_)
  refine w_skip ?_
  refine w_seq ?_
  refine w_reg ?_
  refine w_mv_ptr (evs' (gsn rfl (gsn rfl rfl))) ?_
  refine w_mv_int (evs' (gsn rfl (gsn rfl rfl))) ?_
  refine w_mv_ptr (evs' (gsn rfl (gsn rfl rfl))) ?_
  refine w_nck rfl ?_
  refine w_fa rfl ?_
  refine w_ld rfl hb_b rfl ?_
  refine w_call (reading_ok _ _ _ _ _ ?_)
  refine w_nck rfl ?_
  refine w_fa rfl ?_
  refine m_st_int hb_b rfl rfl rfl (fun h1 hq kp1 => ?_)
  have S := S.keep kp1 (nF1 nf_b_S)
  have lt_b := kp1.lt lt_b
  have hb_b := hq
  refine w_nil ?_
  refine w_seq ?_
  refine w_reg ?_
  refine w_mv_ptr (evs' (gsn rfl (gsn rfl rfl))) ?_
  refine w_nck rfl ?_
  refine w_fa rfl ?_
  refine w_ld rfl hb_b rfl ?_
  refine w_add rfl rfl (wr64 (by omega) (by omega)) ?_
  refine w_mv_int rfl ?_
  refine w_kp ?_
  refine w_nil ?_
  refine w_seq ?_
  refine w_seq ?_
  refine w_reg ?_
  refine w_mv_int (evs' gse) ?_
  refine w_mv_ptr (evs' (gsn rfl (gsn rfl (gsn rfl rfl)))) ?_
  refine w_nck rfl ?_
  refine w_fa rfl ?_
  refine w_ld rfl hb_b rfl ?_
  refine w_le rfl rfl (fun c1 => ?_) (fun c1 => ?_)
  ·
    refine w_kp ?_
    refine w_nil ?_
    refine w_cond (evs' gse) (fun _ => ?_) (fun hh => nomatch hh)
    refine w_seq ?_
    refine w_reg ?_
    refine w_mv_int rfl ?_
    refine w_kp ?_
    refine w_nil ?_
    refine w_ret ?_
    refine ens_ret1 gse ?_
    exact (k1 _ c1 hb_b S kp1)
  ·
    refine w_kp ?_
    refine w_nil ?_
    refine w_cond (evs' gse) (fun hh => nomatch hh) (fun _ => ?_)
    refine w_skip ?_
    refine w_seq ?_
    refine w_reg ?_
    refine w_mv_ptr (evs' (gsn rfl (gsn rfl (gsn rfl (gsn rfl rfl))))) ?_
    refine w_mv_int (evs' (gsn rfl gse)) ?_
    refine w_nck rfl ?_
    refine w_fa rfl ?_
    refine m_st_int hb_b rfl rfl rfl (fun h2 hq kp2 => ?_)
    have S := S.keep kp2 (nF1 nf_b_S)
    have lt_b := kp2.lt lt_b
    have hb_b := hq
    refine w_nil ?_
    refine w_seq ?_
    refine w_reg ?_
    refine w_mv_ptr (evs' (gsn rfl (gsn rfl (gsn rfl (gsn rfl rfl))))) ?_
    refine w_mv_ptr (evs' (gsn rfl (gsn rfl (gsn rfl (gsn rfl rfl))))) ?_
    refine w_nck rfl ?_
    refine w_fa rfl ?_
    refine w_ld rfl hb_b rfl ?_
    refine w_mv_int (evs' (gsn rfl gse)) ?_
    refine m_one_int rfl (fun t3 h3 hb_t3 kp3 nn3 hn3 => ?_)
    have nf_t3_S := S.new nn3
    have hb_b := kp3.get hb_b lt_b ni0
    have S := S.keep kp3 nF0
    have lt_b := kp3.lt lt_b
    refine m_app S hb_t3 rfl (by decide) (by omega) rfl rfl (fun v4 h4 m4 S4 kp4 nn4 hn4 => ?_)
    have nf_b_S4 : b ∉ [m4] := ni1 (by omega)
    have hb_b := kp4.get hb_b lt_b nf_b_S
    have lt_b := kp4.lt lt_b
    refine w_nck rfl ?_
    refine w_fa rfl ?_
    refine m_st_v hb_b S4.flat rfl rfl rfl (fun h5 hq kp5 => ?_)
    have S4 := S4.keep kp5 (nF1 nf_b_S4)
    have lt_b := kp5.lt lt_b
    have hb_b := hq
    refine w_nil ?_
    refine w_seq ?_
    refine w_seq ?_
    refine w_reg ?_
    refine w_mv_ptr (evs' (gsn rfl (gsn rfl (gsn rfl (gsn rfl rfl))))) ?_
    refine w_nck rfl ?_
    refine w_fa rfl ?_
    refine w_ld rfl hb_b rfl ?_
    refine w_sl_len S4 rfl ?_
    refine w_gt rfl rfl (fun c2 => ?_) (fun c2 => ?_)
    ·
      refine w_kp ?_
      refine w_nil ?_
      refine w_cond (evs' gse) (fun _ => ?_) (fun hh => nomatch hh)
      refine w_reg ?_
      refine w_mv_ptr (evs' (gsn rfl (gsn rfl (gsn rfl (gsn rfl (gsn rfl rfl)))))) ?_
      refine w_mv_ptr (evs' (gsn rfl (gsn rfl (gsn rfl (gsn rfl (gsn rfl rfl)))))) ?_
      refine w_nck rfl ?_
      refine w_fa rfl ?_
      refine w_ld rfl hb_b rfl ?_
      refine w_sl_from S4 rfl rfl (by omega) (by simp; omega) (by simp) (by decide) (fun v6 S6 => ?_)
      have nf_b_S6 := nf_b_S4
      refine w_nck rfl ?_
      refine w_fa rfl ?_
      refine m_st_v hb_b S6.flat rfl rfl rfl (fun h7 hq kp7 => ?_)
      have S6 := S6.keep kp7 (nF1 nf_b_S6)
      have lt_b := kp7.lt lt_b
      have hb_b := hq
      refine w_nil ?_
      refine w_seq ?_
      refine w_reg ?_
      refine w_mv_int (evs' (gsn rfl (gsn rfl gse))) ?_
      refine w_mv_int rfl ?_
      refine w_kp ?_
      refine w_nil ?_
      refine w_ret ?_
      refine ens_ret1 gse ?_
      refine (k2 _ _ _ _ (by omega) hb_b ((((((kp1.trans kp2).trans kp3).trans kp4).trans kp5).trans kp7).mono (fun c hc => .inl (by grind))) S6 ?_ ?_)
      · rw [if_pos (by simp at c2; omega)]; rfl
      · intro c hc; rw [List.mem_singleton.1 hc]; have := kp1.1; have := kp2.1; have := kp3.1; omega
    ·
      refine w_kp ?_
      refine w_nil ?_
      refine w_cond (evs' gse) (fun hh => nomatch hh) (fun _ => ?_)
      refine w_skip ?_
      refine w_seq ?_
      refine w_reg ?_
      refine w_mv_int (evs' (gsn rfl (gsn rfl gse))) ?_
      refine w_mv_int rfl ?_
      refine w_kp ?_
      refine w_nil ?_
      refine w_ret ?_
      refine ens_ret1 gse ?_
      refine (k2 _ _ _ _ (by omega) hb_b (((((kp1.trans kp2).trans kp3).trans kp4).trans kp5).mono (fun c hc => .inl (by grind))) S4 ?_ ?_)
      · rw [if_neg (by simp at c2; omega)]; rfl
      · intro c hc; rw [List.mem_singleton.1 hc]; have := kp1.1; have := kp2.1; have := kp3.1; omega
theorem take_unknown (L d : Nat) (h : H) (b : P) (ppm now0 gr now ser num len : Int) (vs vl : V) (F : List P) (xs : List (List V)) {Q : V → H → Prop}
    (hb_b : h.get b = some (.cells [.int .i64 ppm, .int .i64 now0, .int .i64 gr, vs, vl] false)) (S : Sl 1 h vs F xs) (nf_b_S : b ∉ F) (lt_b : b.num < h.next.num) (hxs : xs.length ≤ 1000) (hL : 1001 ≤ L) (hu : ∀ e ∈ xs, ∃ s, e = [.int .i64 s] ∧ s ≠ ser)
    (k : ∀ h', h'.get b = some (.cells [.int .i64 ppm, .int .i64 (rd now now0), .int .i64 gr, vs, vl] false) → Sl 1 h' vs F xs → Keep h h' [b] → Q (.bool false) h') :
    Ens (call fnt L (d + 2) p11 [.ptr b 0, .agg [.int .i64 ser, .int .i64 num, .int .i64 len], .int .i64 now] h) Q := by
  refine w_fn (af := af11) rfl rfl rfl ?_
  refine w_seq ?_
  refine w_reg ?_
  refine m_box (evs' rfl) rfl (fun n1 h1 hb_n1 kp1 nn1 hn1 => ?_)
  have nf_n1_S := S.new nn1
  have hb_b := kp1.get hb_b lt_b ni0
  have S := S.keep kp1 nF0
  have lt_b := kp1.lt lt_b
  have lt_n1 : n1.num < h1.next.num := by omega
  refine w_kp ?_
  refine w_mv_bool rfl ?_
  refine w_kp ?_
  refine w_nil ?_
  refine w_seq ?_
  refine w_seq ?_
  refine w_reg ?_
  refine w_mv_ptr (evs' (gsn rfl (gsn rfl rfl))) ?_
  refine w_eqv (t' := false) rfl rfl rfl rfl ?_
  refine w_kp ?_
  refine w_nil ?_
  refine w_cond (evs' gse) (fun hh => nomatch hh) (fun _ => ?_)
  refine w_skip ?_
  refine w_seq ?_
  refine w_reg ?_
  refine w_mv_ptr (evs' (gsn rfl (gsn rfl (gsn rfl rfl)))) ?_
  refine w_mv_int (evs' (gsn rfl (gsn rfl (gsn rfl rfl)))) ?_
  refine w_mv_ptr (evs' (gsn rfl (gsn rfl (gsn rfl rfl)))) ?_
  refine w_nck rfl ?_
  refine w_fa rfl ?_
  refine w_ld rfl hb_b rfl ?_
  refine w_call (reading_ok _ _ _ _ _ ?_)
  refine w_nck rfl ?_
  refine w_fa rfl ?_
  refine m_st_int hb_b rfl rfl rfl (fun h2 hq kp2 => ?_)
  have hb_n1 := kp2.get hb_n1 lt_n1 (ni1 (by omega))
  have S := S.keep kp2 (nF1 nf_b_S)
  have lt_b := kp2.lt lt_b
  have lt_n1 := kp2.lt lt_n1
  have hb_b := hq
  refine w_nil ?_
  refine w_seq ?_
  refine w_reg ?_
  refine w_mv_bool rfl ?_
  refine w_kp ?_
  refine w_nil ?_
  refine w_seq ?_
  refine w_seq ?_
  refine w_reg ?_
  refine w_mv_ptr (evs' (gsn rfl (gsn rfl (gsn rfl (gsn rfl rfl))))) ?_
  refine w_nck rfl ?_
  refine w_fa rfl ?_
  refine w_ld rfl hb_b rfl ?_
  refine w_kp ?_
  refine w_sl_len S rfl ?_
  refine w_kp ?_
  refine w_mv_int rfl ?_
  refine w_kp ?_
  refine w_nil ?_
  refine w_block ?_
  refine w_loop (fun kk fr hh => ∃ (i : Int), fr.get p0 = some (.ptr b 0) ∧ fr.get p2 = some (.int .i64 now) ∧ fr.get p4 = some (.ptr n1 0) ∧ fr.get p6 = some (.bool false) ∧ fr.get p7 = some (.bool false) ∧ fr.get p31 = some (vs) ∧ fr.get p32 = some (.int .i64 (xs.length : Int)) ∧ fr.get p33 = some (.int .i64 i) ∧ (0 ≤ i) ∧ (i + (kk : Int) = xs.length) ∧ (hh = h2)) (k := xs.length) (by omega) ⟨0, (gsn rfl (gsn rfl (gsn rfl (gsn rfl (gsn rfl (gsn rfl (gsn rfl rfl))))))), (gsn rfl (gsn rfl (gsn rfl (gsn rfl (gsn rfl (gsn rfl (gsn rfl rfl))))))), (gsn rfl (gsn rfl (gsn rfl (gsn rfl (gsn rfl (gsn rfl gse)))))), (gsn rfl (gsn rfl (gsn rfl (gsn rfl (gsn rfl gse))))), (gsn rfl (gsn rfl (gsn rfl gse))), (gsn rfl (gsn rfl gse)), (gsn rfl gse), gse, (by omega), (by omega), (rfl)⟩ ?_
  rintro kk fr hh ⟨i, f_p0, f_p2, f_p4, f_p6, f_p7, f_p31, f_p32, f_p33, hi, hk, rfl⟩
  refine w_seq ?_
  refine w_reg ?_
  refine w_lt (evs' f_p33) (evs' f_p32) (fun c1 => ?_) (fun c1 => ?_)
  ·
    refine w_kp ?_
    refine w_nil ?_
    refine w_seq ?_
    refine w_cond (evs' gse) (fun _ => ?_) (fun hh => nomatch hh)
    refine w_skip ?_
    refine w_seq ?_
    refine w_block ?_
    refine w_seq ?_
    refine w_reg ?_
    refine w_sl_ix S (evs' (gsn rfl f_p31)) (evs' (gsn rfl f_p33)) (by omega) (by omega) (fun s3 o3 cs3 e3 hs3 he3 ht3 hf3 => ?_)
    obtain ⟨x3, rfl, hx3⟩ := hu _ (List.mem_of_getElem? he3)
    refine w_ld rfl hs3 (takeN_nth (j := 0) ht3 rfl) ?_
    refine w_mv_int rfl ?_
    refine w_kp ?_
    refine w_nil ?_
    refine w_reg ?_
    refine w_mv_bool (evs' (gsn rfl (gsn rfl f_p7))) ?_
    refine w_mv_bool rfl ?_
    refine w_gop rfl (fun _ => ?_) (fun hh => nomatch hh)
    refine w_mv_int (evs' gse) ?_
    refine w_gop rfl (fun _ => ?_) (fun hh => nomatch hh)
    refine w_fa (evs' (gsn rfl (gsn rfl f_p4))) ?_
    refine w_gop rfl (fun _ => ?_) (fun hh => nomatch hh)
    refine w_ld rfl hb_n1 rfl ?_
    refine w_gop rfl (fun _ => ?_) (fun hh => nomatch hh)
    refine w_ieq rfl rfl (fun c2 => absurd c2 hx3) (fun c2 => ?_)
    refine w_pick rfl (fun hh => nomatch hh) (fun _ => ?_)
    refine w_mv_bool rfl ?_
    refine w_mv_bool rfl ?_
    refine w_kp ?_
    refine w_nil ?_
    refine w_reg ?_
    refine w_add (evs' (gsn rfl (gsn rfl (gsn rfl f_p33)))) rfl (wr64 (by omega) (by omega)) ?_
    refine w_mv_int rfl ?_
    refine w_kp ?_
    refine w_nil ?_
    exact ⟨kk - 1, by omega, i + 1, (gsn rfl (gsn rfl (gsn rfl (gsn rfl f_p0)))), (gsn rfl (gsn rfl (gsn rfl (gsn rfl f_p2)))), (gsn rfl (gsn rfl (gsn rfl (gsn rfl f_p4)))), (gsn rfl (gsn rfl (gsn rfl (gsn rfl f_p6)))), (gsn rfl gse), (gsn rfl (gsn rfl (gsn rfl (gsn rfl f_p31)))), (gsn rfl (gsn rfl (gsn rfl (gsn rfl f_p32)))), gse, (by omega), (by omega), (rfl)⟩
  ·
    refine w_kp ?_
    refine w_nil ?_
    refine w_seq ?_
    refine w_cond (evs' gse) (fun hh => nomatch hh) (fun _ => ?_)
    refine w_exit ?_
    refine w_seq ?_
    refine w_seq ?_
    refine w_reg ?_
    refine w_mv_bool (evs' (gsn rfl f_p7)) ?_
    refine w_not rfl ?_
    refine w_kp ?_
    refine w_nil ?_
    refine w_cond (evs' gse) (fun _ => ?_) (fun hh => nomatch hh)
    refine w_seq ?_
    refine w_reg ?_
    refine w_mv_bool rfl ?_
    refine w_kp ?_
    refine w_nil ?_
    refine w_ret ?_
    refine ens_ret1 gse ?_
    exact (k _ hb_b S ((kp1.trans kp2).mono (fun c hc => .inl (by grind))))
abbrev le (y : Int × Int) : List V := [.int .i64 y.1, .int .i64 y.2]
def untilF (a : Int) (out : Int) (lea : List (Int × Int)) : Int := lea.foldl (fun o y => if y.1 ≤ a then max o y.2 else o) out
theorem map_at {α β : Type} {f : α → β} {l : List α} {i : Nat} {e : β} (h : (l.map f)[i]? = some e) : ∃ y, l[i]? = some y ∧ f y = e := by
  rw [List.getElem?_map] at h
  exact Option.map_eq_some_iff.1 h
theorem take_at {α : Type} {l : List α} {i : Nat} {y : α} (h : l[i]? = some y) : l.take (i + 1) = l.take i ++ [y] := by
  rw [List.take_add_one, h]
  rfl
theorem untilF_at {a out : Int} {lea : List (Int × Int)} {i : Nat} {y : Int × Int} (h : lea[i]? = some y) : untilF a out (lea.take (i + 1)) = if y.1 ≤ a then max (untilF a out (lea.take i)) y.2 else untilF a out (lea.take i) := by
  unfold untilF
  rw [take_at h, List.foldl_append]
  rfl
theorem untilF_range {a out lo hi : Int} : ∀ (lea : List (Int × Int)), lo ≤ out → out ≤ hi → (∀ y ∈ lea, y.2 ≤ hi) → lo ≤ untilF a out lea ∧ untilF a out lea ≤ hi := by
  intro lea
  induction lea generalizing out with
  | nil => intro h1 h2 _; exact ⟨h1, h2⟩
  | cons y lea ih =>
    intro h1 h2 h3
    show lo ≤ untilF a (if y.1 ≤ a then max out y.2 else out) lea ∧ _
    have hy := h3 y List.mem_cons_self
    refine ih (out := if y.1 ≤ a then max out y.2 else out) ?_ ?_ (fun z hz => h3 z (List.mem_cons_of_mem _ hz))
    · split <;> omega
    · split <;> omega
theorem until_ok (L d : Nat) (h : H) (b : P) (ppm now0 gr now ap : Int) (vs vl : V) (F : List P) (lea : List (Int × Int)) {Q : V → H → Prop}
    (hb_b : h.get b = some (.cells [.int .i64 ppm, .int .i64 now0, .int .i64 gr, vs, vl] false)) (S : Sl 2 h vl F (lea.map le)) (nf_b_S : b ∉ F) (lt_b : b.num < h.next.num) (hxs : lea.length ≤ 1000) (hL : 1001 ≤ L)
    (k : ∀ h', h'.get b = some (.cells [.int .i64 ppm, .int .i64 (rd now now0), .int .i64 gr, vs, vl] false) → Sl 2 h' vl F (lea.map le) → Keep h h' [b] → Q (.int .i64 (untilF (max ap 0) (rd now now0) lea)) h') :
    Ens (call fnt L (d + 2) p14 [.ptr b 0, .int .i64 now, .int .i64 ap] h) Q := by
  have hlen : (lea.map le).length = lea.length := List.length_map _
  refine w_fn (af := af14) rfl rfl rfl ?_
  refine w_seq ?_
  refine w_reg ?_
  refine w_mv_int rfl ?_
  refine w_kp ?_
  refine w_nil ?_
  refine w_seq ?_
  refine w_seq ?_
  refine w_reg ?_
  refine w_mv_ptr (evs' (gsn rfl rfl)) ?_
  refine w_eqv (t' := false) rfl rfl rfl rfl ?_
  refine w_kp ?_
  refine w_nil ?_
  refine w_cond (evs' gse) (fun hh => nomatch hh) (fun _ => ?_)
  refine w_skip ?_
  refine w_seq ?_
  refine w_reg ?_
  refine w_mv_ptr (evs' (gsn rfl (gsn rfl rfl))) ?_
  refine w_mv_int (evs' (gsn rfl (gsn rfl rfl))) ?_
  refine w_mv_ptr (evs' (gsn rfl (gsn rfl rfl))) ?_
  refine w_nck rfl ?_
  refine w_fa rfl ?_
  refine w_ld rfl hb_b rfl ?_
  refine w_call (reading_ok _ _ _ _ _ ?_)
  refine w_nck rfl ?_
  refine w_fa rfl ?_
  refine m_st_int hb_b rfl rfl rfl (fun h1 hq kp1 => ?_)
  have S := S.keep kp1 (nF1 nf_b_S)
  have lt_b := kp1.lt lt_b
  have hb_b := hq
  refine w_nil ?_
  refine w_seq ?_
  refine w_reg ?_
  refine w_mv_int (evs' (gsn rfl (gsn rfl rfl))) ?_
  refine w_mx2 rfl rfl ?_
  refine w_mv_int rfl ?_
  refine w_kp ?_
  refine w_nil ?_
  refine w_seq ?_
  refine w_reg ?_
  refine w_mv_ptr (evs' (gsn rfl (gsn rfl (gsn rfl rfl)))) ?_
  refine w_nck rfl ?_
  refine w_fa rfl ?_
  refine w_ld rfl hb_b rfl ?_
  refine w_mv_int rfl ?_
  refine w_kp ?_
  refine w_nil ?_
  refine w_seq ?_
  refine w_seq ?_
  refine w_reg ?_
  refine w_mv_ptr (evs' (gsn rfl (gsn rfl (gsn rfl (gsn rfl rfl))))) ?_
  refine w_nck rfl ?_
  refine w_fa rfl ?_
  refine w_ld rfl hb_b rfl ?_
  refine w_kp ?_
  refine w_sl_len S rfl ?_
  refine w_kp ?_
  refine w_mv_int rfl ?_
  refine w_kp ?_
  refine w_nil ?_
  refine w_block ?_
  refine w_loop (fun kk fr hh => ∃ (i : Int) (out : Int), fr.get p0 = some (.ptr b 0) ∧ fr.get p2 = some (.int .i64 (max ap 0)) ∧ fr.get p7 = some (.int .i64 out) ∧ fr.get p30 = some (vl) ∧ fr.get p31 = some (.int .i64 ((lea.map le).length : Int)) ∧ fr.get p32 = some (.int .i64 i) ∧ (0 ≤ i) ∧ (i + (kk : Int) = lea.length) ∧ (out = untilF (max ap 0) (rd now now0) (lea.take i.toNat)) ∧ (Keep h hh [b]) ∧ (hh.get b = some (.cells [.int .i64 ppm, .int .i64 (rd now now0), .int .i64 gr, vs, vl] false)) ∧ (Sl 2 hh vl F (lea.map le)) ∧ (b.num < hh.next.num)) (k := lea.length) (by omega) ⟨0, rd now now0, (gsn rfl (gsn rfl (gsn rfl (gsn rfl (gsn rfl (gsn rfl (gsn rfl rfl))))))), (gsn rfl (gsn rfl (gsn rfl (gsn rfl gse)))), (gsn rfl (gsn rfl (gsn rfl gse))), (gsn rfl (gsn rfl gse)), (gsn rfl gse), gse, (by omega), (by omega), (rfl), (kp1), (hb_b), (S), (lt_b)⟩ ?_
  rintro kk fr hh ⟨i, out, f_p0, f_p2, f_p7, f_p30, f_p31, f_p32, hi, hk, ho, kp0, hb_b, S, lt_b⟩
  refine w_seq ?_
  refine w_reg ?_
  refine w_lt (evs' f_p32) (evs' f_p31) (fun c1 => ?_) (fun c1 => ?_)
  ·
    refine w_kp ?_
    refine w_nil ?_
    refine w_seq ?_
    refine w_cond (evs' gse) (fun _ => ?_) (fun hh => nomatch hh)
    refine w_skip ?_
    refine w_seq ?_
    refine w_block ?_
    refine w_seq ?_
    refine w_reg ?_
    refine w_sl_ix S (evs' (gsn rfl f_p30)) (evs' (gsn rfl f_p32)) (by omega) (by omega) (fun s2 o2 cs2 e2 hs2 he2 ht2 hf2 => ?_)
    obtain ⟨y2, hy2, rfl⟩ := map_at he2
    refine w_ldn rfl hs2 ht2 ?_
    refine m_alloc (fun n3 h3 hb_n3 kp3 nn3 hn3 => ?_)
    have nf_n3_S := S.new nn3
    have hs2 := kp3.get hs2 (S.lt _ hf2) (nF0 _ hf2)
    have hb_b := kp3.get hb_b lt_b ni0
    have S := S.keep kp3 nF0
    have lt_b := kp3.lt lt_b
    have lt_n3 : n3.num < h3.next.num := by omega
    refine w_kp ?_
    refine m_st_agg hb_n3 rfl rfl rfl rfl (fun h4 hq kp4 => ?_)
    have hs2 := kp4.get hs2 (S.lt _ hf2) ((nF1 nf_n3_S) _ hf2)
    have hb_b := kp4.get hb_b lt_b (ni1 (by omega))
    have S := S.keep kp4 (nF1 nf_n3_S)
    have lt_b := kp4.lt lt_b
    have lt_n3 := kp4.lt lt_n3
    have hb_n3 := hq
    refine w_nil ?_
    refine w_seq ?_
    refine w_reg ?_
    refine w_fa (evs' gse) ?_
    refine w_ld rfl hb_n3 rfl ?_
    refine w_mv_int (evs' (gsn rfl (gsn rfl f_p2))) ?_
    refine w_le rfl rfl (fun c2 => ?_) (fun c2 => ?_)
    ·
      refine w_kp ?_
      refine w_nil ?_
      refine w_cond (evs' gse) (fun _ => ?_) (fun hh => nomatch hh)
      refine w_reg ?_
      refine w_mv_int (evs' (gsn rfl (gsn rfl (gsn rfl f_p7)))) ?_
      refine w_fa (evs' (gsn rfl gse)) ?_
      refine w_ld rfl hb_n3 rfl ?_
      refine w_mx2 rfl rfl ?_
      refine w_mv_int rfl ?_
      refine w_kp ?_
      refine w_nil ?_
      refine w_reg ?_
      refine w_add (evs' (gsn rfl (gsn rfl (gsn rfl (gsn rfl f_p32))))) rfl (wr64 (by omega) (by omega)) ?_
      refine w_mv_int rfl ?_
      refine w_kp ?_
      refine w_nil ?_
      exact ⟨kk - 1, by omega, i + 1, _, (gsn rfl (gsn rfl (gsn rfl (gsn rfl (gsn rfl f_p0))))), (gsn rfl (gsn rfl (gsn rfl (gsn rfl (gsn rfl f_p2))))), (gsn rfl gse), (gsn rfl (gsn rfl (gsn rfl (gsn rfl (gsn rfl f_p30))))), (gsn rfl (gsn rfl (gsn rfl (gsn rfl (gsn rfl f_p31))))), gse, (by omega), (by omega), (by rw [show (i + 1).toNat = i.toNat + 1 by omega, untilF_at hy2, if_pos (by assumption), ho]), (((kp0.tr0 kp3).trn kp4 (Nat.le_trans kp0.1 (Nat.le_of_eq nn3.symm)))), (hb_b), (S), (lt_b)⟩
    ·
      refine w_kp ?_
      refine w_nil ?_
      refine w_cond (evs' gse) (fun hh => nomatch hh) (fun _ => ?_)
      refine w_skip ?_
      refine w_reg ?_
      refine w_add (evs' (gsn rfl (gsn rfl (gsn rfl f_p32)))) rfl (wr64 (by omega) (by omega)) ?_
      refine w_mv_int rfl ?_
      refine w_kp ?_
      refine w_nil ?_
      exact ⟨kk - 1, by omega, i + 1, _, (gsn rfl (gsn rfl (gsn rfl (gsn rfl f_p0)))), (gsn rfl (gsn rfl (gsn rfl (gsn rfl f_p2)))), (gsn rfl (gsn rfl (gsn rfl (gsn rfl f_p7)))), (gsn rfl (gsn rfl (gsn rfl (gsn rfl f_p30)))), (gsn rfl (gsn rfl (gsn rfl (gsn rfl f_p31)))), gse, (by omega), (by omega), (by rw [show (i + 1).toNat = i.toNat + 1 by omega, untilF_at hy2, if_neg (by assumption), ho]), (((kp0.tr0 kp3).trn kp4 (Nat.le_trans kp0.1 (Nat.le_of_eq nn3.symm)))), (hb_b), (S), (lt_b)⟩
  ·
    refine w_kp ?_
    refine w_nil ?_
    refine w_seq ?_
    refine w_cond (evs' gse) (fun hh => nomatch hh) (fun _ => ?_)
    refine w_exit ?_
    refine w_seq ?_
    refine w_reg ?_
    refine w_mv_int (evs' (gsn rfl f_p7)) ?_
    refine w_mv_int rfl ?_
    refine w_kp ?_
    refine w_nil ?_
    refine w_ret ?_
    refine ens_ret1 gse ?_
    refine ?_
    rw [ho, List.take_of_length_le (by omega)]
    exact k _ hb_b S kp0
theorem holds_ok (L d : Nat) (h : H) (b : P) (ppm now0 gr now ap : Int) (vs vl : V) (F : List P) (lea : List (Int × Int)) {Q : V → H → Prop}
    (hb_b : h.get b = some (.cells [.int .i64 ppm, .int .i64 now0, .int .i64 gr, vs, vl] false)) (S : Sl 2 h vl F (lea.map le)) (nf_b_S : b ∉ F) (lt_b : b.num < h.next.num) (hxs : lea.length ≤ 1000) (hL : 1001 ≤ L)
    (k : ∀ h' t, t = decide (rd now now0 < untilF (max ap 0) (rd now now0) lea) → h'.get b = some (.cells [.int .i64 ppm, .int .i64 (rd now now0), .int .i64 gr, vs, vl] false) → Sl 2 h' vl F (lea.map le) → Keep h h' [b] → Q (.bool t) h') :
    Ens (call fnt L (d + 3) p12 [.ptr b 0, .int .i64 now, .int .i64 ap] h) Q := by
  refine w_fn (af := af12) rfl rfl rfl ?_
  refine w_seq ?_
  refine w_reg ?_
  refine w_mv_bool rfl ?_
  refine w_kp ?_
  refine w_nil ?_
  refine w_seq ?_
  refine w_seq ?_
  refine w_reg ?_
  refine w_mv_ptr (evs' (gsn rfl rfl)) ?_
  refine w_eqv (t' := false) rfl rfl rfl rfl ?_
  refine w_kp ?_
  refine w_nil ?_
  refine w_cond (evs' gse) (fun hh => nomatch hh) (fun _ => ?_)
  refine w_skip ?_
  refine w_seq ?_
  refine w_reg ?_
  refine w_mv_ptr (evs' (gsn rfl (gsn rfl rfl))) ?_
  refine w_mv_int (evs' (gsn rfl (gsn rfl rfl))) ?_
  refine w_mv_int (evs' (gsn rfl (gsn rfl rfl))) ?_
  refine w_call (until_ok _ _ _ b _ _ _ _ _ _ _ _ _ hb_b S nf_b_S lt_b (by omega) (by omega) (fun h1 hq Sq kp1 => ?_))
  have lt_b := kp1.lt lt_b
  have hb_b := hq
  have S := Sq
  refine w_mv_int rfl ?_
  refine w_kp ?_
  refine w_nil ?_
  refine w_seq ?_
  refine w_reg ?_
  refine w_mv_int (evs' gse) ?_
  refine w_mv_ptr (evs' (gsn rfl (gsn rfl (gsn rfl rfl)))) ?_
  refine w_nck rfl ?_
  refine w_fa rfl ?_
  refine w_ld rfl hb_b rfl ?_
  refine w_gt rfl rfl (fun c1 => ?_) (fun c1 => ?_)
  ·
    refine w_mv_bool rfl ?_
    refine w_kp ?_
    refine w_nil ?_
    refine w_ret ?_
    refine ens_ret1 gse ?_
    exact (k _ _ (by simp; omega) hb_b S kp1)
  ·
    refine w_mv_bool rfl ?_
    refine w_kp ?_
    refine w_nil ?_
    refine w_ret ?_
    refine ens_ret1 gse ?_
    exact (k _ _ (by simp; omega) hb_b S kp1)
end Go.Am
