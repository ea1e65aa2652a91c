/- Two clocks within a bound: what is below the hold on one is below the wait on the other. -/
import Derived.Test.YtfgolglgogmniaaAw
import Derived.Test.YtfgolglgogmniaaIssue
namespace Go.Am
theorem ens_retcc {fr : Fr} {h : H} {p p2 p3 : P} {n n2 : Nat} {b b2 : P} {o o2 : Nat} {cs vs cs2 vs2 : List V} {ro ro2 : Bool} {v3 : V} {Q : V → H → Prop} (e : fr.get p = some (.ptr b o)) (hb : h.get b = some (.cells cs ro)) (hv : takeN n (dropN o cs) = some vs)
    (e2 : fr.get p2 = some (.ptr b2 o2)) (hb2 : h.get b2 = some (.cells cs2 ro2)) (hv2 : takeN n2 (dropN o2 cs2) = some vs2) (e3 : fr.get p3 = some v3) (q : Q (.tup [.agg vs, .agg vs2, v3]) h) : Ens (retR fr h [.celln p n, .celln p2 n2, .tmp p3]) Q := by
  refine ens_eq (v := .tup [.agg vs, .agg vs2, v3]) ?_ q
  have hr : h.read b o n = some vs := by
    unfold H.read H.cells
    rw [hb]
    exact hv
  have hr2 : h.read b2 o2 n2 = some vs2 := by
    unfold H.read H.cells
    rw [hb2]
    exact hv2
  have h1 : res1 fr h (.celln p n) = some (.agg vs) := by simp only [res1, e, hr]
  have h2 : res1 fr h (.celln p2 n2) = some (.agg vs2) := by simp only [res1, e2, hr2]
  have : resOf fr h [.celln p n, .celln p2 n2, .tmp p3] = some [.agg vs, .agg vs2, v3] := by
    show (Option.casesOn (motive := fun _ => Option (List V)) (Option.casesOn (motive := fun _ => Option (List V)) (Option.casesOn (motive := fun _ => Option (List V)) (fr.get p3) none (fun v => some [v])) none (fun vs => Option.casesOn (motive := fun _ => Option (List V)) (res1 fr h (.celln p2 n2)) none (fun v => some (v :: vs)))) none (fun vs => Option.casesOn (motive := fun _ => Option (List V)) (res1 fr h (.celln p n)) none (fun v => some (v :: vs)))) = _
    rw [e3, h2, h1]
  unfold retR
  rw [this]
  rfl
/-- the reading of a clock at a true time -/
def readF (off n t : Int) : Int := off + t * n / 1000
theorem readF_mono {off n s t : Int} (hn : 0 ≤ n) (h : s ≤ t) : readF off n s ≤ readF off n t := by
  unfold readF
  have h1 : s * n ≤ t * n := Int.mul_le_mul_of_nonneg_right h hn
  omega
theorem drift {pp na nb len s g t : Int} (h0 : 0 ≤ pp) (h1 : pp ≤ 100000) (ha : 1000 - pp / 1000 ≤ na) (hb : nb ≤ 1000 + pp / 1000) (hb0 : 0 ≤ nb) (hl : 1 ≤ len) (hl2 : len ≤ 1099511627776) (hsg : s ≤ g) (hgt : g ≤ t) (off off2 : Int)
    (hh : readF off na t < readF off na s + holdF len pp) : readF off2 nb t < readF off2 nb g + waitF len pp := by
  have el : lim len 1099511627776 = len := by unfold lim; omega
  have ep : lim pp 100000 = pp := by unfold lim; omega
  unfold readF holdF at hh
  rw [el, ep] at hh
  have hst : 0 ≤ t - s := by omega
  -- true time since the ask is below the length
  have k1 : t * na - s * na < 1000 * (len * (1000000 - pp) / 1000000) := by omega
  have k2 : (t - s) * na = t * na - s * na := by rw [Int.sub_mul]
  have k3 : (t - s) * (1000000 - pp) ≤ (t - s) * (1000 * na) := Int.mul_le_mul_of_nonneg_left (by omega) hst
  have k4 : (t - s) * (1000 * na) = 1000 * ((t - s) * na) := by rw [Int.mul_left_comm]
  have k5 : (t - s) * (1000000 - pp) < len * (1000000 - pp) := by omega
  have k6 : t - s < len := Int.lt_of_mul_lt_mul_right k5 (by omega)
  -- so is what the other clock shows
  have j1 : (t - g) * nb ≤ (len - 1) * nb := Int.mul_le_mul_of_nonneg_right (by omega) hb0
  have j2 : (len - 1) * (1000 * nb) ≤ (len - 1) * (1000000 + pp) := Int.mul_le_mul_of_nonneg_left (by omega) (by omega)
  have j3 : (len - 1) * (1000 * nb) = 1000 * ((len - 1) * nb) := by rw [Int.mul_left_comm]
  have j4 : (t - g) * nb = t * nb - g * nb := by rw [Int.sub_mul]
  unfold readF waitF
  rw [el, ep, if_neg (by omega)]
  omega
end Go.Am
namespace Go.Am
set_option maxRecDepth 100000
set_option maxHeartbeats 8000000
def clipF (n lo hi : Int) : Int := max lo (min n hi)
theorem clip_ok (L d : Nat) (n lo hi : Int) (h : H) {Q : V → H → Prop} (k : Q (.int .i64 (clipF n lo hi)) h) : Ens (call fnt L (d + 1) p13 [.int .i64 n, .int .i64 lo, .int .i64 hi] h) Q := by
  refine w_fn (af := af13) rfl rfl rfl ?_
  refine w_seq ?_
  refine w_reg ?_
  refine w_mv_int rfl ?_
  refine w_kp ?_
  refine w_nil ?_
  refine w_seq ?_
  refine w_reg ?_
  refine w_mv_int (evs' (gsn rfl rfl)) ?_
  refine w_mv_int (evs' (gsn rfl rfl)) ?_
  refine w_mv_int (evs' (gsn rfl rfl)) ?_
  refine w_mn2 rfl rfl ?_
  refine w_mx2 rfl rfl ?_
  refine w_mv_int rfl ?_
  refine w_kp ?_
  refine w_nil ?_
  refine w_ret ?_
  refine ens_ret1 gse ?_
  exact k
theorem rate_ok (L d : Nat) (h : H) (off n : Int) {Q : V → H → Prop} (hna : 1 ≤ n) (hnb : n ≤ 1048576) (k : ∀ h', Keep h h' [] → Q (.bool true) h') : Ens (call fnt L (d + 1) p29 [.agg [.int .i64 off, .int .i64 n, .int .i64 1000]] h) Q := by
  refine w_fn (af := af29) rfl rfl rfl ?_
  refine w_seq ?_
  refine w_reg ?_
  refine m_box (evs' rfl) rfl (fun n1 h1 hb_n1 kp1 nn1 hn1 => ?_)
  have lt_n1 : n1.num < h1.next.num := by omega
  refine w_kp ?_
  refine w_mv_bool rfl ?_
  refine w_kp ?_
  refine w_nil ?_
  refine w_seq ?_
  refine w_reg ?_
  refine w_fa (evs' (gsn rfl gse)) ?_
  refine w_ld rfl hb_n1 rfl ?_
  refine w_ge rfl rfl (fun c1 => ?_) (fun c1 => by omega)
  refine w_mv_bool rfl ?_
  refine w_gop rfl (fun _ => ?_) (fun hh => nomatch hh)
  refine w_fa (evs' (gsn rfl gse)) ?_
  refine w_gop rfl (fun _ => ?_) (fun hh => nomatch hh)
  refine w_ld rfl hb_n1 rfl ?_
  refine w_gop rfl (fun _ => ?_) (fun hh => nomatch hh)
  refine w_le rfl rfl (fun c2 => ?_) (fun c2 => by omega)
  refine w_pick rfl (fun _ => ?_) (fun hh => nomatch hh)
  refine w_mv_bool rfl ?_
  refine w_mv_bool rfl ?_
  refine w_gop rfl (fun _ => ?_) (fun hh => nomatch hh)
  refine w_fa (evs' (gsn rfl gse)) ?_
  refine w_gop rfl (fun _ => ?_) (fun hh => nomatch hh)
  refine w_ld rfl hb_n1 rfl ?_
  refine w_gop rfl (fun _ => ?_) (fun hh => nomatch hh)
  refine w_ge rfl rfl (fun c3 => ?_) (fun c3 => by omega)
  refine w_pick rfl (fun _ => ?_) (fun hh => nomatch hh)
  refine w_mv_bool rfl ?_
  refine w_mv_bool rfl ?_
  refine w_gop rfl (fun _ => ?_) (fun hh => nomatch hh)
  refine w_fa (evs' (gsn rfl gse)) ?_
  refine w_gop rfl (fun _ => ?_) (fun hh => nomatch hh)
  refine w_ld rfl hb_n1 rfl ?_
  refine w_gop rfl (fun _ => ?_) (fun hh => nomatch hh)
  refine w_le rfl rfl (fun c4 => ?_) (fun c4 => by omega)
  refine w_pick rfl (fun _ => ?_) (fun hh => nomatch hh)
  refine w_mv_bool rfl ?_
  refine w_mv_bool rfl ?_
  refine w_kp ?_
  refine w_nil ?_
  refine w_ret ?_
  refine ens_ret1 gse ?_
  exact k _ ((Keep.refl h []).tr0 kp1)
theorem read_ok (L d : Nat) (h : H) (off n t : Int) {Q : V → H → Prop} (hna : 1 ≤ n) (hnb : n ≤ 2000) (ho1 : 0 ≤ off) (ho2 : off ≤ 1000) (hta : 0 ≤ t) (htb : t ≤ 1000000) (k : ∀ h', Keep h h' [] → Q (.tup [.int .i64 (readF off n t), .niliface]) h') :
    Ens (call fnt L (d + 2) p18 [.agg [.int .i64 off, .int .i64 n, .int .i64 1000], .int .i64 t] h) Q := by
  have hm := mul_range hta htb (b := n) (B := 2000) (by omega) hnb
  refine w_fn (af := af18) rfl rfl rfl ?_
  refine w_seq ?_
  refine w_reg ?_
  refine m_box (evs' rfl) rfl (fun n1 h1 hb_n1 kp1 nn1 hn1 => ?_)
  have lt_n1 : n1.num < h1.next.num := by omega
  refine w_kp ?_
  refine w_mv_int rfl ?_
  refine w_kp ?_
  refine w_mv_nif rfl ?_
  refine w_kp ?_
  refine w_nil ?_
  refine w_seq ?_
  refine w_seq ?_
  refine w_reg ?_
  refine w_ldn (evs' (gsn rfl (gsn rfl gse))) hb_n1 rfl ?_
  refine w_call (rate_ok _ _ _ _ _ hna (by omega) (fun h2 kp2 => ?_))
  have hb_n1 := kp2.get hb_n1 lt_n1 ni0
  have lt_n1 := kp2.lt lt_n1
  refine w_not rfl ?_
  refine w_mv_bool rfl ?_
  refine w_gop rfl (fun _ => ?_) (fun hh => nomatch hh)
  refine w_fa (evs' (gsn rfl (gsn rfl gse))) ?_
  refine w_gop rfl (fun _ => ?_) (fun hh => nomatch hh)
  refine w_ld rfl hb_n1 rfl ?_
  refine w_gop rfl (fun _ => ?_) (fun hh => nomatch hh)
  refine w_lt rfl rfl (fun c1 => by omega) (fun c1 => ?_)
  refine w_pick rfl (fun hh => nomatch hh) (fun _ => ?_)
  refine w_mv_bool rfl ?_
  refine w_mv_bool rfl ?_
  refine w_gop rfl (fun _ => ?_) (fun hh => nomatch hh)
  refine w_fa (evs' (gsn rfl (gsn rfl gse))) ?_
  refine w_gop rfl (fun _ => ?_) (fun hh => nomatch hh)
  refine w_ld rfl hb_n1 rfl ?_
  refine w_gop rfl (fun _ => ?_) (fun hh => nomatch hh)
  refine w_gt rfl rfl (fun c2 => by omega) (fun c2 => ?_)
  refine w_pick rfl (fun hh => nomatch hh) (fun _ => ?_)
  refine w_mv_bool rfl ?_
  refine w_mv_bool rfl ?_
  refine w_gop rfl (fun _ => ?_) (fun hh => nomatch hh)
  refine w_mv_int (evs' (gsn rfl (gsn rfl (gsn rfl rfl)))) ?_
  refine w_gop rfl (fun _ => ?_) (fun hh => nomatch hh)
  refine w_lt rfl rfl (fun c3 => by omega) (fun c3 => ?_)
  refine w_pick rfl (fun hh => nomatch hh) (fun _ => ?_)
  refine w_mv_bool rfl ?_
  refine w_mv_bool rfl ?_
  refine w_gop rfl (fun _ => ?_) (fun hh => nomatch hh)
  refine w_mv_int (evs' (gsn rfl (gsn rfl (gsn rfl rfl)))) ?_
  refine w_gop rfl (fun _ => ?_) (fun hh => nomatch hh)
  refine w_gt rfl rfl (fun c4 => by omega) (fun c4 => ?_)
  refine w_pick rfl (fun hh => nomatch hh) (fun _ => ?_)
  refine w_mv_bool rfl ?_
  refine w_kp ?_
  refine w_nil ?_
  refine w_cond (evs' gse) (fun hh => nomatch hh) (fun _ => ?_)
  refine w_skip ?_
  refine w_seq ?_
  refine w_reg ?_
  refine w_fa (evs' (gsn rfl (gsn rfl (gsn rfl gse)))) ?_
  refine w_ld rfl hb_n1 rfl ?_
  refine w_mv_int (evs' (gsn rfl (gsn rfl (gsn rfl (gsn rfl rfl))))) ?_
  refine w_fa (evs' (gsn rfl (gsn rfl (gsn rfl gse)))) ?_
  refine w_ld rfl hb_n1 rfl ?_
  refine w_mul rfl rfl (wr64 (by omega) (by omega)) ?_
  refine w_fa (evs' (gsn rfl (gsn rfl (gsn rfl gse)))) ?_
  refine w_ld rfl hb_n1 rfl ?_
  refine w_quop rfl rfl (by omega) (by omega) (wr64 (by omega) (by omega)) ?_
  refine w_add rfl rfl (wr64 (by omega) (by omega)) ?_
  refine w_mv_int rfl ?_
  refine w_mv_nif rfl ?_
  refine w_slot rfl ?_
  refine w_slot_int rfl ?_
  refine w_nil ?_
  refine w_ret ?_
  refine ens_ret2 gse (gsn rfl gse) ?_
  exact k _ (((Keep.refl h []).tr0 kp1).tr0 kp2)
theorem clocks_ok (L d : Nat) (h : H) (ppm u0 u1 : Int) {Q : V → H → Prop} (hu0 : 0 ≤ u0 ∧ u0 < 4294967296) (hu1 : 0 ≤ u1 ∧ u1 < 4294967296)
    (k : ∀ h' na nb pp, 0 ≤ pp → pp ≤ 100000 → 1000 - pp / 1000 ≤ na → na ≤ 1000 + pp / 1000 → 1000 - pp / 1000 ≤ nb → nb ≤ 1000 + pp / 1000 → Keep h h' [] → Q (.tup [.agg [.int .i64 7, .int .i64 na, .int .i64 1000], .agg [.int .i64 100, .int .i64 nb, .int .i64 1000], .int .i64 pp]) h') :
    Ens (call fnt L (d + 2) p16 [.agg [.int .i64 ppm, .int .u32 u0, .int .u32 u1]] h) Q := by
  have hp : 0 ≤ clipF ppm 0 100000 ∧ clipF ppm 0 100000 ≤ 100000 := by unfold clipF; omega
  refine w_fn (af := af16) rfl rfl rfl ?_
  refine w_seq ?_
  refine w_reg ?_
  refine m_box (evs' rfl) rfl (fun n1 h1 hb_n1 kp1 nn1 hn1 => ?_)
  have lt_n1 : n1.num < h1.next.num := by omega
  refine w_kp ?_
  refine m_alloc (fun n2 h2 hb_n2 kp2 nn2 hn2 => ?_)
  have hb_n1 := kp2.get hb_n1 lt_n1 ni0
  have lt_n1 := kp2.lt lt_n1
  have lt_n2 : n2.num < h2.next.num := by omega
  refine w_kp ?_
  refine m_alloc (fun n3 h3 hb_n3 kp3 nn3 hn3 => ?_)
  have hb_n1 := kp3.get hb_n1 lt_n1 ni0
  have hb_n2 := kp3.get hb_n2 lt_n2 ni0
  have lt_n1 := kp3.lt lt_n1
  have lt_n2 := kp3.lt lt_n2
  have lt_n3 : n3.num < h3.next.num := by omega
  refine w_kp ?_
  refine w_mv_int rfl ?_
  refine w_kp ?_
  refine w_nil ?_
  refine w_seq ?_
  refine w_reg ?_
  refine w_fa (evs' (gsn rfl (gsn rfl (gsn rfl gse)))) ?_
  refine w_ld rfl hb_n1 rfl ?_
  refine w_call (clip_ok _ _ _ _ _ _ ?_)
  refine w_mv_int rfl ?_
  refine w_kp ?_
  refine w_nil ?_
  refine w_seq ?_
  refine w_reg ?_
  refine w_mv_int (evs' gse) ?_
  refine w_quop rfl rfl (by omega) (by omega) (wr64 (by omega) (by omega)) ?_
  refine w_mv_int rfl ?_
  refine w_kp ?_
  refine w_nil ?_
  refine w_seq ?_
  refine w_reg ?_
  refine w_mv_int (evs' gse) ?_
  refine w_sub rfl rfl (wr64 (by omega) (by omega)) ?_
  refine w_fa (evs' (gsn rfl (gsn rfl (gsn rfl (gsn rfl (gsn rfl gse)))))) ?_
  refine w_ixarr rfl rfl rfl ?_
  refine w_ld rfl hb_n1 rfl ?_
  refine w_mv_int (evs' gse) ?_
  refine w_mul rfl rfl (wr64 (by omega) (by omega)) ?_
  refine w_add rfl rfl (wr64 (by omega) (by omega)) ?_
  refine w_i2i rfl (wrU32 (by omega) (by omega)) ?_
  refine w_remp rfl rfl (by omega) (by omega) ?_
  have hq0 := Int.emod_nonneg u0 (b := 2 * (clipF ppm 0 100000 / 1000) + 1) (by omega)
  have hq1 := Int.emod_lt_of_pos u0 (b := 2 * (clipF ppm 0 100000 / 1000) + 1) (by omega)
  have hq2 := Int.emod_nonneg u1 (b := 2 * (clipF ppm 0 100000 / 1000) + 1) (by omega)
  have hq3 := Int.emod_lt_of_pos u1 (b := 2 * (clipF ppm 0 100000 / 1000) + 1) (by omega)
  refine w_i2i rfl (wr64 (by omega) (by omega)) ?_
  refine w_add rfl rfl (wr64 (by omega) (by omega)) ?_
  refine w_mv_int rfl ?_
  refine w_kp ?_
  refine w_nil ?_
  refine w_seq ?_
  refine w_reg ?_
  refine w_mv_int (evs' (gsn rfl gse)) ?_
  refine w_sub rfl rfl (wr64 (by omega) (by omega)) ?_
  refine w_fa (evs' (gsn rfl (gsn rfl (gsn rfl (gsn rfl (gsn rfl (gsn rfl gse))))))) ?_
  refine w_ixarr rfl rfl rfl ?_
  refine w_ld rfl hb_n1 rfl ?_
  refine w_mv_int (evs' (gsn rfl gse)) ?_
  refine w_mul rfl rfl (wr64 (by omega) (by omega)) ?_
  refine w_add rfl rfl (wr64 (by omega) (by omega)) ?_
  refine w_i2i rfl (wrU32 (by omega) (by omega)) ?_
  refine w_remp rfl rfl (by omega) (by omega) ?_
  have hq0 := Int.emod_nonneg u0 (b := 2 * (clipF ppm 0 100000 / 1000) + 1) (by omega)
  have hq1 := Int.emod_lt_of_pos u0 (b := 2 * (clipF ppm 0 100000 / 1000) + 1) (by omega)
  have hq2 := Int.emod_nonneg u1 (b := 2 * (clipF ppm 0 100000 / 1000) + 1) (by omega)
  have hq3 := Int.emod_lt_of_pos u1 (b := 2 * (clipF ppm 0 100000 / 1000) + 1) (by omega)
  refine w_i2i rfl (wr64 (by omega) (by omega)) ?_
  refine w_add rfl rfl (wr64 (by omega) (by omega)) ?_
  refine w_mv_int rfl ?_
  refine w_kp ?_
  refine w_nil ?_
  refine w_seq ?_
  refine w_reg ?_
  refine w_mv_int (evs' (gsn rfl gse)) ?_
  refine w_eq (v := .agg [.int .i64 7, .int .i64 _, .int .i64 1000]) rfl ?_
  refine w_mv_int (evs' gse) ?_
  refine w_eq (v := .agg [.int .i64 100, .int .i64 _, .int .i64 1000]) rfl ?_
  refine w_mv_int (evs' (gsn rfl (gsn rfl (gsn rfl gse)))) ?_
  refine m_st_agg hb_n2 rfl (evs' (gsn rfl (gsn rfl (gsn rfl (gsn rfl (gsn rfl (gsn rfl gse))))))) rfl rfl (fun h4 hq kp4 => ?_)
  have hb_n1 := kp4.get hb_n1 lt_n1 (ni1 (by omega))
  have hb_n3 := kp4.get hb_n3 lt_n3 (ni1 (by omega))
  have lt_n1 := kp4.lt lt_n1
  have lt_n2 := kp4.lt lt_n2
  have lt_n3 := kp4.lt lt_n3
  have hb_n2 := hq
  refine m_st_agg hb_n3 rfl (evs' (gsn rfl (gsn rfl (gsn rfl (gsn rfl (gsn rfl gse)))))) rfl rfl (fun h5 hq kp5 => ?_)
  have hb_n1 := kp5.get hb_n1 lt_n1 (ni1 (by omega))
  have hb_n2 := kp5.get hb_n2 lt_n2 (ni1 (by omega))
  have lt_n1 := kp5.lt lt_n1
  have lt_n2 := kp5.lt lt_n2
  have lt_n3 := kp5.lt lt_n3
  have hb_n3 := hq
  refine w_mv_int rfl ?_
  refine w_kp ?_
  refine w_nil ?_
  refine w_ret ?_
  refine ens_retcc (gsn rfl (gsn rfl (gsn rfl (gsn rfl (gsn rfl (gsn rfl (gsn rfl gse))))))) hb_n2 rfl (gsn rfl (gsn rfl (gsn rfl (gsn rfl (gsn rfl (gsn rfl gse)))))) hb_n3 rfl gse ?_
  exact k _ _ _ _ hp.1 hp.2 (by omega) (by omega) (by omega) (by omega) ((((((Keep.refl h []).tr0 kp1).tr0 kp2).tr0 kp3).trn kp4 (Nat.le_trans ((Keep.refl h []).tr0 kp1).1 (Nat.le_of_eq nn2.symm))).trn kp5 (Nat.le_trans (((Keep.refl h []).tr0 kp1).tr0 kp2).1 (Nat.le_of_eq nn3.symm)))
end Go.Am
