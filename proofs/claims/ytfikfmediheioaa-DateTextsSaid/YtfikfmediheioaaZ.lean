/- Words for printed functions: a row made of a constant text, whose block is marked behind its end; windows of it. -/
import Derived.Test.YtfikfmediheioaaX
import Derived.Lib.SlBytesConst
import Derived.Laws.BytesArg
namespace Go.Proofs.YtfikfmediheioaaX
open Go.RowKit Go.Proofs.YtfikfmediheioaaW.PrintWords Go.Proofs.YtfikfmediheioaaW.PrintLast Go.Proofs.YtfikfmediheioaaW.PrintMore
set_option linter.unusedVariables false
set_option linter.unusedSimpArgs false
/-! A window of a row of one's own: its cells stand between others in one block. -/
/-- What stands ahead of the window, what behind it, how many cells the block has. -/
structure ZD where
  pre : List Int
  post : List Int
  size : Nat
  fz : Nat × Nat
def ZW (k : IntKind) (D : ZD) (e : Nat) (w : World) (base : Nat) (ok : Nat → Prop) (v : Value) (xs : List Int) : Prop :=
  (∀ b, v.ownBlock = some b → ok b) ∧ ∃ g cap cur, v = .slice (some ⟨g, D.pre.length, none⟩) xs.length cap ∧ base ≤ g ∧ w.heap[g]? = some (.cells cur e D.fz) ∧ (∀ j, j < D.size → ¬ (D.fz.1 ≤ j ∧ j < D.fz.2)) ∧ 0 < xs.length ∧ xs.length ≤ cap ∧ D.pre.length + cap ≤ D.size ∧ cur.size = D.size ∧ D.size ≤ maxLen ∧
    cur.toList.take (D.pre.length + xs.length + D.post.length) = nums k (D.pre ++ xs ++ D.post) ∧ D.pre.length + xs.length + D.post.length ≤ D.size
section
variable {k : IntKind} {D : ZD} {e : Nat} {w w1 : World} {base : Nat} {ok ok' : Nat → Prop} {v : Value} {xs : List Int}
theorem ZW_mono (h : ZW k D e w base ok v xs) (hok : ∀ b, ok b → ok' b) : ZW k D e w base ok' v xs := ⟨fun b hb => hok b (h.1 b hb), h.2⟩
theorem ZW_move (h : ZW k D e w base ok v xs) (hm : ∀ b, b < w.heap.size → w1.heap[b]? = w.heap[b]?) : ZW k D e w1 base ok v xs := by
  obtain ⟨h0, g, cap, cur, hv, hb, hg, r⟩ := h
  exact ⟨h0, g, cap, cur, hv, hb, (hm g (blk_lt hg)).trans hg, r⟩
theorem ZW_below (h : ZW k D e w base ok v xs) (hb : Below w.heap.size w w1) : ZW k D e w1 base ok v xs := ZW_move h (fun b hlt => hb.block b hlt)
theorem ZW_alloc (h : ZW k D e w base ok v xs) (o : Obj) : ZW k D e (w.alloc o) base ok v xs := ZW_below h (below_alloc (Below.refl _ _) o)
theorem ZW_drew (h : ZW k D e w base ok v xs) : ZW k D e w.drew base ok v xs := ZW_below h (below_drew (Below.refl _ _))
theorem ZW_drewN (h : ZW k D e w base ok v xs) (m : Nat) : ZW k D e (w.drewN m) base ok v xs := ZW_below h (pw_below_drewN (Below.refl _ _) m)
theorem ZW_slice (h : ZW k D e w base ok v xs) : ∃ A c, v = .slice A xs.length c := by
  obtain ⟨_, g, cap, cur, hv, _⟩ := h
  exact ⟨_, _, hv⟩
theorem ZW_ne (h : ZW k D e w base ok v xs) {g t : Nat} {cells : Array Value} (hb : w.heap[g]? = some (.cells cells t (0, 0))) (ht : e ≠ t) : some g ≠ v.ownBlock := by
  obtain ⟨_, g', cap, cur, rfl, _, hg, _⟩ := h
  intro he
  have : g = g' := by simpa [Value.ownBlock] using he
  subst this
  rw [hg] at hb
  injection hb with hb
  injection hb with _ hb
  exact ht hb
theorem ZW_form (h : ZW k D e w base ok v xs) (_ : 0 < xs.length) : ∃ g cap, v = .slice (some ⟨g, D.pre.length, none⟩) xs.length cap ∧ base ≤ g ∧ g < w.heap.size ∧ ∃ cells, w.heap[g]? = some (.cells cells e D.fz) := by
  obtain ⟨_, g, cap, cur, hv, hb, hg, _⟩ := h
  exact ⟨g, cap, hv, hb, blk_lt hg, cur, hg⟩
theorem zw_add (g o j : Nat) : (⟨g, o, none⟩ : Addr).add j = ⟨g, o + j, none⟩ := by
  unfold Addr.add
  split <;> simp_all
theorem zw_at {cur : Array Value} {pre xs post : List Int} (ht : cur.toList.take (pre.length + xs.length + post.length) = nums k (pre ++ xs ++ post)) (j : Nat) (hj : j < xs.length) : cur[pre.length + j]? = some (.int k (xs.getD j 0)) := by
  have h1 : (cur.toList.take (pre.length + xs.length + post.length))[pre.length + j]? = cur.toList[pre.length + j]? := by
    rw [List.getElem?_take_of_lt (by omega)]
  rw [← Array.getElem?_toList, ← h1, ht]
  unfold nums
  rw [List.getElem?_map, List.append_assoc, List.getElem?_append_right (by omega), Nat.add_sub_cancel_left, List.getElem?_append_left hj, List.getD_eq_getElem?_getD, List.getElem?_eq_getElem hj]
  rfl
theorem ZW_celln (_ : Int) {g n cap : Nat} (h : ZW k D e w base ok (.slice (some ⟨g, D.pre.length, none⟩) n cap) xs) (i : Int) (h0 : 0 ≤ i) (hi : i < n) : w.cell? ⟨g, D.pre.length + i.toNat, none⟩ = some (.int k (rd xs i)) ∧ w.frozen? ⟨g, D.pre.length + i.toNat, none⟩ = false := by
  obtain ⟨_, g', cap', cur, hv, hb, hg, hf, h1, h2, h3, h4, h5, ht, hz⟩ := h
  injection hv with ha hn hc
  injection ha with ha
  injection ha with ha
  subst ha hn hc
  refine ⟨?_, ?_⟩
  · have := zw_at ht i.toNat (by omega)
    simp only [World.cell?, hg, this]
    rfl
  · obtain ⟨pre, post, size, f1, f2⟩ := D
    have hf' := hf (pre.length + i.toNat) (by simp only at *; omega)
    simp only at *
    simp only [World.frozen?, hg]
    simp
    omega
theorem ZW_reads' {A : Option Addr} {n c : Nat} (h : ZW k D e w base ok (.slice A n c) xs) : n = xs.length ∧ n ≤ c ∧ Kd.C (Kd.int k) w A xs.length xs := by
  obtain ⟨h0, g', cap', cur, hv, hb, hg, hf, h1, h2, h3, h4, h5, ht, hz⟩ := h
  injection hv with ha hn hc
  subst ha hn hc
  refine ⟨rfl, h2, rfl, by unfold maxLen at h5; omega, fun _ => ⟨_, rfl, fun j p hj => ⟨[.int k p], rfl, rfl, fun i u hi => ?_⟩⟩⟩
  have hj1 : j < xs.length := (List.getElem?_eq_some_iff.1 hj).1
  have h6 := zw_at ht j hj1
  have hp : xs.getD j 0 = p := by rw [List.getD_eq_getElem?_getD, hj]; rfl
  rw [hp] at h6
  have hi0 : i = 0 := by
    have := (List.getElem?_eq_some_iff.1 hi).1
    simp at this
    exact this
  subst hi0
  have hu : Value.int k p = u := by simpa using hi
  subst hu
  rw [zw_add]
  have hs : (Kd.int k).sz = 1 := rfl
  simp only [World.cell?, hg, hs, Nat.mul_one, Nat.add_zero, h6]
  rfl
theorem ZW_putg {g n cap : Nat} (h : ZW k D e w base ok (.slice (some ⟨g, D.pre.length, none⟩) n cap) xs) (i : Int) (x : Int) (h0 : 0 ≤ i) (hi : i < xs.length) : ZW k D e (w.setCell ⟨g, D.pre.length + i.toNat, none⟩ (.int k x)) base ok (.slice (some ⟨g, D.pre.length, none⟩) n cap) (xs.set i.toNat x) ∧ w.grownBy (w.setCell ⟨g, D.pre.length + i.toNat, none⟩ (.int k x)) (some g) := by
  obtain ⟨hok, g', cap', cur, hv, hb, hg, hf, h1, h2, h3, h4, h5, ht, hz⟩ := h
  injection hv with ha hn hc
  injection ha with ha
  injection ha with ha
  subst ha hn hc
  refine ⟨⟨hok, g, cap, cur.setIfInBounds (D.pre.length + i.toNat) (.int k x), by rw [List.length_set], hb, ?_, hf, by rw [List.length_set]; exact h1, by rw [List.length_set]; exact h2, h3, by rw [Array.size_setIfInBounds]; exact h4, h5, ?_, by rw [List.length_set]; exact hz⟩, ?_⟩
  · simp only [World.setCell, Array.getElem?_modify, hg]
    simp
  · rw [List.length_set, Array.toList_setIfInBounds, List.take_set, ht]
    unfold nums
    rw [← List.map_set, List.append_assoc, List.set_append_right _ _ (by omega), Nat.add_sub_cancel_left, List.set_append_left _ _ (by omega), List.append_assoc]
  · exact ⟨rfl, rfl, rfl, by simp [World.setCell], fun b hlt hne => Below.heap_setCell w _ _ b (fun e1 => hne (by rw [e1]))⟩
end

/-- The whole row, seen as the window from lo on. -/
theorem ZW_sub {k : IntKind} {e : Nat} {w : World} {base : Nat} {ok : Nat → Prop} {g n cap size : Nat} {fz : Nat × Nat} {L : List Int} (h : ZW k ⟨[], [], size, fz⟩ e w base ok (.slice (some ⟨g, 0, none⟩) n cap) L) (lo hi : Nat) (h1 : lo < hi) (h2 : hi ≤ L.length) :
    ZW k ⟨L.take lo, L.drop hi, size, fz⟩ e w base ok (.slice (some ⟨g, lo, none⟩) (hi - lo) (cap - lo)) ((L.take hi).drop lo) := by
  obtain ⟨hok, g', cap', cur, hv, hb, hg, hf, a1, a2, a3, a4, a5, ht, hz⟩ := h
  injection hv with ha hn hc
  injection ha with ha
  injection ha with ha
  subst ha hn hc
  simp only [List.length_nil, Nat.zero_add, Nat.add_zero, List.nil_append, List.append_nil] at *
  have hlen : ((L.take hi).drop lo).length = hi - lo := by rw [List.length_drop, List.length_take]; omega
  have hpre : (L.take lo).length = lo := by rw [List.length_take]; omega
  have hpost : (L.drop hi).length = L.length - hi := List.length_drop
  have hall : L.take lo ++ (L.take hi).drop lo ++ L.drop hi = L := by
    have e1 : L.take lo = (L.take hi).take lo := by rw [List.take_take, Nat.min_eq_left (by omega)]
    rw [e1, List.take_append_drop, List.take_append_drop]
  refine ⟨fun b hb' => hok b (by simpa [Value.ownBlock] using hb'), g, cap - lo, cur, by simp only [hpre, hlen], hb, hg, hf, by rw [hlen]; omega, by rw [hlen]; omega, ?_, a4, a5, ?_, ?_⟩
  · simp only [hpre]; omega
  · simp only [hpre, hlen, hpost, hall]
    rw [show lo + (hi - lo) + (L.length - hi) = L.length by omega]
    exact ht
  · simp only [hpre, hlen, hpost]; omega
/-- The window given back. -/
theorem ZW_back {k : IntKind} {e : Nat} {w : World} {base : Nat} {ok : Nat → Prop} {g n c cap size lo : Nat} {fz : Nat × Nat} {pre post xs : List Int} (h : ZW k ⟨pre, post, size, fz⟩ e w base ok (.slice (some ⟨g, lo, none⟩) n c) xs) (hc : (pre ++ xs ++ post).length ≤ cap) (hs : cap ≤ size) :
    ZW k ⟨[], [], size, fz⟩ e w base ok (.slice (some ⟨g, 0, none⟩) (pre ++ xs ++ post).length cap) (pre ++ xs ++ post) := by
  obtain ⟨hok, g', cap', cur, hv, hb, hg, hf, a1, a2, a3, a4, a5, ht, hz⟩ := h
  injection hv with ha hn hc'
  injection ha with ha
  injection ha with ha
  subst ha
  have hlen : (pre ++ xs ++ post).length = pre.length + xs.length + post.length := by simp only [List.length_append]
  refine ⟨fun b hb' => hok b (by simpa [Value.ownBlock] using hb'), g, cap, cur, rfl, hb, hg, hf, by omega, hc, ?_, a4, a5, ?_, ?_⟩
  · simpa using hs
  · simp only [List.length_nil, Nat.zero_add, Nat.add_zero, List.nil_append, List.append_nil]
    rw [hlen]
    exact ht
  · simp only [List.length_nil, Nat.zero_add, Nat.add_zero]
    rw [hlen]
    exact hz
/-- '[]byte' of a constant text: the row's block is marked behind its end, and no block else is another. -/
theorem ZW_mark {P : Program} {t e : TypeId} (ht : P.underlying t = some (.slice e)) (he : P.underlying e = some (.int .u8)) {w : World} {base : Nat} {ok : Nat → Prop} {v : Value} {L : List Int} (h : Kd.R (Kd.int .u8) e w base ok v L) (h0 : 0 < L.length) :
    ∃ g cap, v = .slice (some ⟨g, 0, none⟩) L.length cap ∧ base ≤ g ∧ ok g ∧
      ∀ w' : World, (∀ b, b < w.heap.size → w'.heap[b]? = w.heap[b]?) → ∃ w2, (convert t t v).run P w' = .ok v w2 ∧ ZW .u8 ⟨[], [], cap, (cap, cap + 1)⟩ e w2 base ok v L ∧ w'.grownBy w2 (some g) := by
  have ho := Kd.own_of_R h
  obtain ⟨hl, h3 | ⟨g', cap0, cur, hv, hb, hh, hnc, hcm, hcs, hct⟩⟩ := ho
  · exact absurd h3.2 (by omega)
  · have hR := h.1
    subst hv
    have hcs1 : cur.size = cap0 := by simpa using hcs
    refine ⟨g', cap0, rfl, hb, hR g' (by simp [Value.ownBlock]), fun w' hw' => ?_⟩
    have hg' : w'.heap[g']? = some (.cells cur e (0, 0)) := (hw' g' (blk_lt hh)).trans hh
    refine ⟨w'.freeze ⟨g', cap0, none⟩ 1, ?_, ⟨hR, g', cap0, cur, rfl, hb, ?_, fun j hj => by simp only at hj ⊢; omega, h0, hnc, by simp, by simpa using hcs, hcm, ?_, by simpa using hnc⟩, ?_⟩
    · have hsh : w'.shape? g' = some (e, cap0) := by
        unfold World.shape?
        rw [hg']
        simp [hcs1]
      simp [convert, run_underlying ht, run_underlying he, markStringish, hsh]
    · unfold World.freeze
      rw [if_neg (by decide)]
      simp only [Array.getElem?_modify, hg']
      simp
    · have hct' := hct
      rw [Nat.mul_one] at hct'
      simp only [List.length_nil, Nat.zero_add, Nat.add_zero, List.nil_append, List.append_nil]
      exact hct'
    · unfold World.freeze
      rw [if_neg (by decide)]
      refine ⟨rfl, rfl, rfl, by simp, fun b _ hne => ?_⟩
      have hb' : ¬ g' = b := fun e1 => hne (by rw [e1])
      simp only [Array.getElem?_modify]
      rw [if_neg hb']
/-- The event of that marking. -/
theorem zmark_event {P : Program} {ops : Array Oper} {rest : List Oper} {o : Oper} {a : Act} {Q : Exit → Act → World → Prop} {W : World} (hgd : o.guard = none) {N : Tmp} (_hd : o.dst = some N) {t e : TypeId} (ht : P.underlying t = some (.slice e)) (he : P.underlying e = some (.int .u8))
    {base : Nat} {ok : Nat → Prop} {v : Value} {L : List Int} (hR : Kd.R (Kd.int .u8) e W base ok v L) (h0 : 0 < L.length)
    (hrun : ∀ w2, (convert t t v).run P W = .ok v w2 → (execOp a.eval o).run P W = .ok (.value v) w2)
    (h : ∀ g cap w2, v = .slice (some ⟨g, 0, none⟩) L.length cap → base ≤ g → ZW .u8 ⟨[], [], cap, (cap, cap + 1)⟩ e w2 base ok v L → W.grownBy w2 (some g) → wpList P ops Q rest (a.put o.dst v) w2) : wpList P ops Q (o :: rest) a W := by
  obtain ⟨g, cap, hv, hb, hk, hm⟩ := ZW_mark (P := P) ht he hR h0
  obtain ⟨w2, h1, h2, h3⟩ := hm W (fun _ _ => rfl)
  exact Kd.event_run hgd (hrun w2 h1) (h g cap w2 hv hb h2 h3)
theorem ZW_parts {k : IntKind} {e : Nat} {w : World} {base : Nat} {ok : Nat → Prop} {g n cap size : Nat} {fz : Nat × Nat} {L : List Int} (h : ZW k ⟨[], [], size, fz⟩ e w base ok (.slice (some ⟨g, 0, none⟩) n cap) L) : n = L.length ∧ n ≤ cap ∧ cap ≤ size := by
  obtain ⟨_, g', cap', cur, hv, hb, hg, hf, a1, a2, a3, _⟩ := h
  injection hv with ha hn hc
  subst hn hc
  refine ⟨rfl, a2, ?_⟩
  simpa using a3
theorem ZW_string {P : Program} {src dst e e' : TypeId} (hs : P.underlying src = some (.slice e)) (he : P.underlying e = some (.int .u8)) (hd : P.underlying dst = some .string) {w : World} {base : Nat} {ok : Nat → Prop} {g n cap size : Nat} {fz : Nat × Nat} {L : List Int}
    (h : ZW .u8 ⟨[], [], size, fz⟩ e' w base ok (.slice (some ⟨g, 0, none⟩) n cap) L) : (convert src dst (.slice (some ⟨g, 0, none⟩) n cap)).run P w = .ok (.string (strOfNums L)) w := by
  obtain ⟨hn, _, _⟩ := ZW_parts h
  refine run_convert_bytes_arg w src e hs he g 0 n cap L hn.symm (fun i hi => ?_) dst hd
  have := (ZW_celln 0 h (i : Int) (by omega) (by omega)).1
  simp only [List.length_nil, Int.toNat_natCast] at this
  rw [this]
  rfl
theorem zwin_from {P : Program} {k : IntKind} {w : World} {base : Nat} {ok : Nat → Prop} {g n c size : Nat} {fz : Nat × Nat} {L : List Int} (t e : TypeId) (kl : IntKind) {i : TypeInfo} (ht : P.underlying t = some (.slice e)) (hi : P.info? e = some i) (hsz : i.size = 1)
    (h : ZW k ⟨[], [], size, fz⟩ e w base ok (.slice (some ⟨g, 0, none⟩) n c) L) (lo m : Int) (h0 : 0 ≤ lo) (h1 : lo < m) (hm : m = (n : Int)) :
    ∀ W : World, (Instr.slice t (.slice (some ⟨g, 0, none⟩) n c) (some (.int kl lo)) none none).run P W = .ok (xwin (.slice (some ⟨g, 0, none⟩) n c) lo m) W := by
  intro W
  subst hm
  obtain ⟨hn, hc, _⟩ := ZW_parts h
  have e1 : ¬ c = lo.toNat := by omega
  rw [cut_from t e kl ht hi 1 hsz (some ⟨g, 0, none⟩) n c lo h0 (by omega) W, xwin_slice, if_neg e1]
  simp only [Option.map, Nat.mul_one, add_plain, Int.toNat_natCast]
theorem zwin_mid {P : Program} {k : IntKind} {w : World} {base : Nat} {ok : Nat → Prop} {g n c size : Nat} {fz : Nat × Nat} {L : List Int} (t e : TypeId) (kl kh : IntKind) {i : TypeInfo} (ht : P.underlying t = some (.slice e)) (hi : P.info? e = some i) (hsz : i.size = 1)
    (h : ZW k ⟨[], [], size, fz⟩ e w base ok (.slice (some ⟨g, 0, none⟩) n c) L) (lo m : Int) (h0 : 0 ≤ lo) (h1 : lo < m) (hm : m ≤ (n : Int)) :
    ∀ W : World, (Instr.slice t (.slice (some ⟨g, 0, none⟩) n c) (some (.int kl lo)) (some (.int kh m)) none).run P W = .ok (xwin (.slice (some ⟨g, 0, none⟩) n c) lo m) W := by
  intro W
  obtain ⟨hn, hc, _⟩ := ZW_parts h
  have e1 : ¬ c = lo.toNat := by omega
  rw [cut_mid t e kl kh ht hi 1 hsz (some ⟨g, 0, none⟩) n c lo m h0 (by omega) hm hc W, xwin_slice, if_neg e1]
  simp only [Option.map, Nat.mul_one, add_plain]
theorem zwin_to {P : Program} {k : IntKind} {w : World} {base : Nat} {ok : Nat → Prop} {g n c size : Nat} {fz : Nat × Nat} {L : List Int} (t e : TypeId) (kh : IntKind) {i : TypeInfo} (ht : P.underlying t = some (.slice e)) (hi : P.info? e = some i) (hsz : i.size = 1)
    (h : ZW k ⟨[], [], size, fz⟩ e w base ok (.slice (some ⟨g, 0, none⟩) n c) L) (lo m : Int) (h0 : lo = 0) (h1 : lo < m) (hm : m ≤ (n : Int)) :
    ∀ W : World, (Instr.slice t (.slice (some ⟨g, 0, none⟩) n c) none (some (.int kh m)) none).run P W = .ok (xwin (.slice (some ⟨g, 0, none⟩) n c) lo m) W := by
  intro W
  subst h0
  obtain ⟨hn, hc, _⟩ := ZW_parts h
  rw [cut_to t e kh ht hi (some ⟨g, 0, none⟩) n c m (by omega) hm hc W, xwin_slice]
  simp
end Go.Proofs.YtfikfmediheioaaX
