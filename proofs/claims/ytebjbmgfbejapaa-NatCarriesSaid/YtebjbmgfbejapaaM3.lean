/- Layer 1 (nat), on: a row of a product, products, bits, equal lists. -/
import Derived.Test.YtebjbmgfbejapaaF27
import Derived.Test.YtebjbmgfbejapaaF28
import Derived.Test.YtebjbmgfbejapaaM2
namespace Go.Proofs.YtebjbmgfbejapaaM
open Go.RowKit Go.Proofs.YtebjbmgfbejapaaW.PrintWords Go.Proofs.YtebjbmgfbejapaaW.PrintLast Go.Proofs.YtebjbmgfbejapaaW.PrintMore Go.Proofs.YtebjbmgfbejapaaX Go.Proofs.Ytebjbmgfbejapaa.F
set_option linter.unusedVariables false
set_option linter.unusedSimpArgs false

/-- What stands in the limbs behind i limbs of a row: x times what was gone through is added. -/
structure RowInv (y l x2 : List Int) (x c : Int) (i : Nat) : Prop where
  w : wfW x2
  len : x2.length = l.length
  c0 : 0 ≤ c ∧ c < 18446744073709551616
  z : ∀ j, i ≤ j → x2.getD j 0 = l.getD j 0
  v : vW x2 + c * ((W : Nat) : Int) ^ i = vW l + x * vW (y.take i)
/-- One limb: two numbers of two limbs, carried. -/
theorem row_step (x y c l : Nat) (hx : x < 18446744073709551616) (hy : y < 18446744073709551616) (hc : c < 18446744073709551616) (hl : l < 18446744073709551616) :
    x * y / 18446744073709551616 < 18446744073709551616 ∧ x * y / 18446744073709551616 + (x * y % 18446744073709551616 + c) / 18446744073709551616 < 18446744073709551616 ∧ x * y / 18446744073709551616 + (x * y % 18446744073709551616 + c) / 18446744073709551616 + (l + (x * y % 18446744073709551616 + c) % 18446744073709551616) / 18446744073709551616 < 18446744073709551616 ∧
    (l + (x * y % 18446744073709551616 + c) % 18446744073709551616) % 18446744073709551616 + (x * y / 18446744073709551616 + (x * y % 18446744073709551616 + c) / 18446744073709551616 + (l + (x * y % 18446744073709551616 + c) % 18446744073709551616) / 18446744073709551616) * 18446744073709551616 = l + x * y + c := by
  have h1 : x * y ≤ 18446744073709551615 * 18446744073709551615 := Nat.mul_le_mul (by omega) (by omega)
  generalize x * y = p at *
  omega
theorem row_l0 (y l : List Int) (x : Int) (hy : wfW y) (hl : wfW l) (hx : 0 ≤ x ∧ x < 18446744073709551616) (hlen : y.length < l.length) (hm : l.length < 4611686018427387904) (hz : l.getD y.length 0 = 0) :
    ∀ d i : Nat, i + d = y.length → ∀ x2 c, RowInv y l x2 x c i → ∀ k, d < k → ∃ r, nat_Nat_row.l0 k x x2 c y (y.length : Int) (i : Int) y = some r ∧ wfW r ∧ r.length = l.length ∧ vW r = vW l + x * vW y ∧ ∀ j, y.length < j → r.getD j 0 = l.getD j 0 := by
  intro d
  induction d with
  | zero =>
    intro i hi x2 c h k hk
    obtain ⟨k, rfl⟩ : ∃ m, k = m + 1 := ⟨k - 1, by omega⟩
    have hi' : i = y.length := by omega
    subst hi'
    simp only [nat_Nat_row.l0, Int.toNat_natCast, rd_nat]
    rw [if_neg (by omega), if_pos (by omega), if_pos (by rw [h.len]; omega), h.z _ (Nat.le_refl _), hz, Int.zero_add, u64_id h.c0]
    have hv := h.v
    rw [show vW (y.take y.length) = vW y from vl_take_ge _ _ _ (by omega)] at hv
    refine ⟨_, rfl, wf_set h.w _ h.c0, by rw [List.length_set, h.len], ?_, fun j hj => ?_⟩
    · show vl _ _ = _
      rw [vl_set _ _ _ _ (by rw [h.len]; omega), h.z _ (Nat.le_refl _), hz, Int.sub_zero]
      simp only [vW] at hv ⊢
      rw [← hv, Int.mul_comm c]
    · rw [getD_set_ne _ _ _ _ _ (by omega)]
      exact h.z j (by omega)
  | succ d ih =>
    intro i hi x2 c h k hk
    obtain ⟨k, rfl⟩ : ∃ m, k = m + 1 := ⟨k - 1, by omega⟩
    have wy := wf_getD W_pos hy i
    have wl := wf_getD W_pos hl i
    have e1 : wrap64 ((i : Int) + 1) = ((i + 1 : Nat) : Int) := by rw [wrap_id (by omega)]; omega
    have hzi := h.z i (Nat.le_refl i)
    have hv := h.v
    have hc := h.c0
    obtain ⟨X, rfl⟩ := Int.eq_ofNat_of_zero_le hx.1
    obtain ⟨Y, hY⟩ := Int.eq_ofNat_of_zero_le wy.1
    obtain ⟨L, hL⟩ := Int.eq_ofNat_of_zero_le wl.1
    obtain ⟨C, rfl⟩ := Int.eq_ofNat_of_zero_le hc.1
    rw [hY, W_int] at wy
    rw [hL, W_int] at wl
    simp only [nat_Nat_row.l0, Int.toNat_natCast, rd_nat, e1, hzi, hY, hL]
    rw [if_pos (by omega), if_pos (by omega), if_pos (by omega), mul64_eq X Y (by omega) (by omega)]
    simp only [Option.bind_some]
    rw [if_pos (by rw [h.len]; omega)]
    obtain ⟨q0, q00, q1, q2⟩ := row_step X Y C L (by omega) (by omega) (by omega) (by omega)
    have p2 : X * Y % 18446744073709551616 < 18446744073709551616 := Nat.mod_lt _ (by decide)
    have f1 : add64s ((X * Y % 18446744073709551616 : Nat) : Int) (C : Int) 0 = (((X * Y % 18446744073709551616 + C) % 18446744073709551616 : Nat) : Int) := by unfold add64s; omega
    have f2 : add64c ((X * Y % 18446744073709551616 : Nat) : Int) (C : Int) 0 = (((X * Y % 18446744073709551616 + C) / 18446744073709551616 : Nat) : Int) := by unfold add64c; omega
    have f3 : ∀ s : Nat, add64s (L : Int) (s : Int) 0 = (((L + s) % 18446744073709551616 : Nat) : Int) := fun s => by unfold add64s; omega
    have f4 : ∀ s : Nat, add64c (L : Int) (s : Int) 0 = (((L + s) / 18446744073709551616 : Nat) : Int) := fun s => by unfold add64c; omega
    rw [f1, f2, f3, f4]
    simp only [← Int.natCast_add]
    rw [wrapN _ q00, ← Int.natCast_add, wrapN _ q1]
    refine ih (i + 1) (by omega) _ _ ⟨wf_set h.w i ?_, by rw [List.length_set, h.len], by omega, fun j hj => by rw [getD_set_ne _ _ _ _ _ (by omega)]; exact h.z j (by omega), ?_⟩ k (by omega)
    · have := Nat.mod_lt (L + (X * Y % 18446744073709551616 + C) % 18446744073709551616) (show 0 < 18446744073709551616 by decide)
      rw [W_int]
      omega
    · show vl _ _ + _ = vl _ _ + _ * vl _ _
      rw [vl_set _ _ _ _ (by rw [h.len]; omega), hzi, hL, vl_take_succ, hY, Int.pow_succ]
      simp only [vW] at hv
      generalize hp : ((W : Nat) : Int) ^ i = p at *
      have q3 : (((L + (X * Y % 18446744073709551616 + C) % 18446744073709551616) % 18446744073709551616 : Nat) : Int) + ((X * Y / 18446744073709551616 + (X * Y % 18446744073709551616 + C) / 18446744073709551616 + (L + (X * Y % 18446744073709551616 + C) % 18446744073709551616) / 18446744073709551616 : Nat) : Int) * ((W : Nat) : Int) = (L : Int) + (X : Int) * (Y : Int) + (C : Int) := by
        rw [← Int.natCast_mul, ← Int.natCast_add]
        show ((_ + _ * 18446744073709551616 : Nat) : Int) = _
        rw [q2, Int.natCast_add, Int.natCast_add, Int.natCast_mul]
      generalize (((L + (X * Y % 18446744073709551616 + C) % 18446744073709551616) % 18446744073709551616 : Nat) : Int) = s at *
      generalize ((X * Y / 18446744073709551616 + (X * Y % 18446744073709551616 + C) / 18446744073709551616 + (L + (X * Y % 18446744073709551616 + C) % 18446744073709551616) / 18446744073709551616 : Nat) : Int) = t at *
      generalize ((W : Nat) : Int) = w at *
      have e2 : p * (s + t * w) = p * ((L : Int) + (X : Int) * (Y : Int) + (C : Int)) := by rw [q3]
      grind
theorem row_eq (y l : List Int) (x : Int) (hy : wfW y) (hl : wfW l) (hx : 0 ≤ x ∧ x < 18446744073709551616) (hlen : y.length < l.length) (hm : l.length < 4611686018427387904) (hz : l.getD y.length 0 = 0) (k : Nat) (hk : y.length < k) :
    ∃ r, nat_Nat_row.f k y x l = some r ∧ wfW r ∧ r.length = l.length ∧ vW r = vW l + x * vW y ∧ ∀ j, y.length < j → r.getD j 0 = l.getD j 0 := by
  unfold nat_Nat_row.f
  exact row_l0 y l x hy hl hx hlen hm hz y.length 0 (Nat.zero_add _) l 0 ⟨hl, rfl, by omega, fun _ _ => rfl, by show vl _ l + 0 * _ = vl _ l + x * vl _ (y.take 0); rw [List.take_zero, show vl ((W : Nat) : Int) ([] : List Int) = 0 from rfl, Int.zero_mul, Int.mul_zero]⟩ k hk

/-- What stands in the limbs of a product behind i rows. -/
structure MulInv (a b x : List Int) (i : Nat) : Prop where
  w : wfW x
  len : x.length = a.length + b.length + 1
  z : ∀ j, i + a.length ≤ j → x.getD j 0 = 0
  v : vW x = vW a * vW (b.take i)
theorem mul_l0 (a b : List Int) (ha : wfW a) (hb : wfW b) (hm : a.length + b.length < 2199023255552) :
    ∀ d i : Nat, i + d = b.length → ∀ x, MulInv a b x i → Ev (fun k => nat_Nat_Mul.l0 k x b (b.length : Int) (i : Int) a) (lim (vW a * vW b).toNat) := by
  intro d
  induction d with
  | zero =>
    intro i hi x h
    have hi' : i = b.length := by omega
    subst hi'
    refine Ev.unroll ?_
    simp only [nat_Nat_Mul.l0]
    refine Ev.neg (by omega) ?_
    have hv := h.v
    rw [show vW (b.take b.length) = vW b from vl_take_ge _ _ _ (by omega)] at hv
    rw [← hv]
    exact Ev.bind (f := fun _ t => some t) (trimmed_ev x h.w (by rw [h.len]; omega)) (Ev.now _)
  | succ d ih =>
    intro i hi x h
    refine Ev.unroll ?_
    have e1 : wrap64 ((i : Int) + 1) = ((i + 1 : Nat) : Int) := by rw [wrap_id (by omega)]; omega
    simp only [nat_Nat_Mul.l0, e1, rd_nat]
    refine Ev.pos (by omega) (Ev.pos (by omega) (Ev.pos (by omega) (Ev.pos (by rw [h.len]; omega) ?_)))
    have wb := wf_getD W_pos hb i
    have hd : ((x.take ((x.length : Int)).toNat).drop ((i : Int)).toNat) = x.drop i := by rw [Int.toNat_natCast, Int.toNat_natCast, List.take_of_length_le (Nat.le_refl _)]
    have hdl : (x.drop i).length = a.length + b.length + 1 - i := by rw [List.length_drop, h.len]
    have hget : ∀ j, (x.drop i).getD j 0 = x.getD (i + j) 0 := fun j => by rw [List.getD_eq_getElem?_getD, List.getElem?_drop, List.getD_eq_getElem?_getD]
    have hr : ∃ r, (∀ k, a.length < k → nat_Nat_row.f k a (b.getD i 0) (x.drop i) = some r) ∧ wfW r ∧ r.length = (x.drop i).length ∧ vW r = vW (x.drop i) + b.getD i 0 * vW a ∧ ∀ j, a.length < j → r.getD j 0 = (x.drop i).getD j 0 := by
      have key := fun k hk => row_eq a (x.drop i) (b.getD i 0) ha (wf_drop h.w i) (by rw [W_int] at wb; exact wb) (by omega) (by omega) (by rw [hget]; exact h.z _ (Nat.le_refl _)) k hk
      obtain ⟨r, h1, h2⟩ := key (a.length + 1) (by omega)
      refine ⟨r, fun k hk => ?_, h2⟩
      exact at_rounds (nat_Nat_row.mono a (b.getD i 0) (x.drop i)) hk h1
    obtain ⟨r, r1, r2, r3, r4, r5⟩ := hr
    have hrow : Ev (fun k => nat_Nat_rowW.f k a (b.getD i 0) x (i : Int) (x.length : Int)) (x.take i ++ r) := by
      refine Ev.lt a.length (fun k hk => ?_)
      unfold nat_Nat_rowW.f
      rw [if_pos ⟨by omega, by rw [h.len]; omega, Int.le_refl _⟩, hd, r1 k hk]
      simp
    refine Ev.bind (f := fun k t => nat_Nat_Mul.l0 k t b (b.length : Int) ((i + 1 : Nat) : Int) a) hrow (ih (i + 1) (by omega) _ ?_)
    have htl : (x.take i).length = i := by rw [List.length_take, h.len]; omega
    refine ⟨wf_append (wf_take h.w i) r2, by rw [List.length_append, htl, r3, hdl]; omega, fun j hj => ?_, ?_⟩
    · rw [List.getD_eq_getElem?_getD, List.getElem?_append_right (by omega), ← List.getD_eq_getElem?_getD, htl, r5 _ (by omega), hget]
      exact h.z _ (by omega)
    · have hv := h.v
      have hsplit : vW x = vW (x.take i) + ((W : Nat) : Int) ^ i * vW (x.drop i) := by
        have := vl_append ((W : Nat) : Int) (x.take i) (x.drop i)
        rw [List.take_append_drop, htl] at this
        exact this
      show vl _ _ = _ * vl _ _
      rw [vl_append, htl, vl_take_succ]
      simp only [vW] at hv hsplit r4 ⊢
      rw [r4]
      rw [hsplit] at hv
      generalize ((W : Nat) : Int) ^ i = p at *
      generalize vl ((W : Nat) : Int) (x.take i) = s at *
      generalize vl ((W : Nat) : Int) (x.drop i) = t at *
      generalize vl ((W : Nat) : Int) a = u at *
      generalize vl ((W : Nat) : Int) (b.take i) = q at *
      grind
theorem mul_ev (a b : List Int) (ha : wfW a) (hb : wfW b) (la : a.length ≤ 1099511627775) (lb : b.length ≤ 1099511627775) : Ev (fun k => nat_Nat_Mul.f k a b) (lim (vW a * vW b).toNat) := by
  unfold nat_Nat_Mul.f
  have e1 : wrap64 (wrap64 ((a.length : Int) + (b.length : Int)) + 1) = ((a.length + b.length + 1 : Nat) : Int) := by
    rw [wrap_id (x := (a.length : Int) + (b.length : Int)) (by omega), wrap_id (by omega)]; omega
  simp only [e1, Int.toNat_natCast]
  refine Ev.pos (by omega) (Ev.pos (by omega) ?_)
  refine mul_l0 a b ha hb (by omega) _ 0 (Nat.zero_add _) _ ⟨wf_replicate W_pos _, List.length_replicate, fun j _ => ?_, ?_⟩
  · rw [List.getD_eq_getElem?_getD, List.getElem?_replicate]; split <;> rfl
  · show vl _ _ = _ * vl _ _
    rw [vl_replicate]
    simp [vl]

/-! bits -/
/-- How many binary digits. -/
def sz (n : Nat) : Nat := if n = 0 then 0 else n.log2 + 1
theorem sz_zero : sz 0 = 0 := rfl
theorem sz_lt (n : Nat) : n < 2 ^ sz n := by
  unfold sz
  split
  · next h => subst h; decide
  · exact Nat.lt_log2_self
theorem sz_le {n : Nat} (h : n ≠ 0) : 2 ^ (sz n - 1) ≤ n := by
  unfold sz
  rw [if_neg h, Nat.add_sub_cancel]
  exact Nat.log2_self_le h
theorem sz_unique {n m : Nat} (hm : 0 < m) (h1 : 2 ^ (m - 1) ≤ n) (h2 : n < 2 ^ m) : sz n = m := by
  have hn : n ≠ 0 := by have : 0 < 2 ^ (m - 1) := Nat.pow_pos (by decide); omega
  have h3 := sz_le hn
  have h4 := sz_lt n
  have h5 : 0 < sz n := by unfold sz; rw [if_neg hn]; omega
  have h6 : sz n - 1 < m := by
    rcases Nat.lt_or_ge (sz n - 1) m with h | h
    · exact h
    · have := Nat.pow_le_pow_right (n := 2) (by decide) h; omega
  have h7 : m - 1 < sz n := by
    rcases Nat.lt_or_ge (m - 1) (sz n) with h | h
    · exact h
    · have := Nat.pow_le_pow_right (n := 2) (by decide) h; omega
  omega
theorem sz_mul_pow {n : Nat} (hn : n ≠ 0) (m : Nat) : sz (n * 2 ^ m) = sz n + m := by
  have h5 : 0 < sz n := by unfold sz; rw [if_neg hn]; omega
  refine sz_unique (by omega) ?_ ?_
  · rw [show sz n + m - 1 = (sz n - 1) + m by omega, Nat.pow_add]
    exact Nat.mul_le_mul_right _ (sz_le hn)
  · rw [Nat.pow_add]
    exact Nat.mul_lt_mul_of_pos_right (sz_lt n) (Nat.pow_pos (by decide))
theorem sz_div (n m : Nat) (h : 2 ^ m ≤ n) : sz n = sz (n / 2 ^ m) + m := by
  have h0 : 0 < 2 ^ m := Nat.pow_pos (by decide)
  have hd : n / 2 ^ m ≠ 0 := by have := Nat.div_pos h h0; omega
  have h5 : 0 < sz (n / 2 ^ m) := by unfold sz; rw [if_neg hd]; omega
  refine sz_unique (by omega) ?_ ?_
  · rw [show sz (n / 2 ^ m) + m - 1 = (sz (n / 2 ^ m) - 1) + m by omega, Nat.pow_add]
    have := sz_le hd
    calc 2 ^ (sz (n / 2 ^ m) - 1) * 2 ^ m ≤ n / 2 ^ m * 2 ^ m := Nat.mul_le_mul_right _ this
      _ ≤ n := Nat.div_mul_le_self _ _
  · have h1 := sz_lt (n / 2 ^ m)
    rw [Nat.pow_add]
    exact (Nat.div_lt_iff_lt_mul h0).1 h1
theorem sz_mono {a b : Nat} (h : a ≤ b) : sz a ≤ sz b := by
  by_cases ha : a = 0
  · subst ha; exact Nat.zero_le _
  · have h1 := sz_le ha
    have h2 := sz_lt b
    rcases Nat.lt_or_ge (sz a - 1) (sz b) with h3 | h3
    · omega
    · have := Nat.pow_le_pow_right (n := 2) (by decide) h3; omega
end Go.Proofs.YtebjbmgfbejapaaM
