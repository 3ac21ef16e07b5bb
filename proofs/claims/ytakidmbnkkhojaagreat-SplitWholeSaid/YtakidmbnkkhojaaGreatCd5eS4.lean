import Derived.Test.YtakidmbnkkhojaaGreatCd5eD
import Derived.Test.YtakidmbnkkhojaaGreatCd5eS3
namespace Go.Proofs.YtakidmbnkkhojaaGreatM
open Go.RowKit Go.Proofs.YtakidmbnkkhojaaGreatW.PrintWords Go.Proofs.YtakidmbnkkhojaaGreatW.PrintLast Go.Proofs.YtakidmbnkkhojaaGreatW.PrintMore Go.Proofs.YtakidmbnkkhojaaGreatX Go.Proofs.YtakidmbnkkhojaaGreat.F Go.Proofs.YtakidmbnkkhojaaGreat
set_option linter.unusedVariables false
set_option linter.unusedSimpArgs false
theorem sz_one:Sz 2 (1:Rat):=sz_int (z:=1) (lim_len_le (by decide)) (by decide)
theorem base_good {b:Int} (hb:0≤b∧b < 3):count_Basis_good.f b=some true:=by
  unfold count_Basis_good.f
  rw [if_pos (by omega),decide_eq_true (by omega)]
theorem base_bad {b:Int} (hb : ¬ (0≤b∧b < 3)):count_Basis_good.f b=some false:=by
  unfold count_Basis_good.f
  by_cases h0:b ≥ 0
  · rw [if_pos h0,decide_eq_false (by omega)]
  · rw [if_neg h0]
theorem year_base {b:Int} (hb : ¬ (0≤b∧b < 3)) (p:D3×D3):Ev (fun k=>count_Year.f k b p.1.1 p.1.2.1 p.1.2.2 p.2.1 p.2.2.1 p.2.2.2) (([]:List Int),false,([]:List Int),2):=by
  unfold count_Year.f
  exact Ev.bindc (base_bad hb) (Ev.neg (by decide) (Ev.const rfl))
theorem year_bad {b:Int} (hb:0≤b∧b < 3) {p:D3×D3} (h : ¬ GoodP p) : ∃ e,e≠0∧Ev (fun k=>count_Year.f k b p.1.1 p.1.2.1 p.1.2.2 p.2.1 p.2.2.1 p.2.2.2) (([]:List Int),false,([]:List Int),e):=by
  obtain ⟨⟨a0,a1,a2⟩,⟨b0,b1,b2⟩⟩:=p
  simp only at h ⊢
  by_cases R1:Right a0 a1 a2
  · by_cases R2:Right b0 b1 b2
    · have ho : ¬ num a0 a1 a2≤num b0 b1 b2:=fun ho=>h ⟨R1,R2,ho⟩
      refine ⟨12,by decide,?_⟩
      unfold count_Year.f
      refine Ev.bindc (base_good hb) (Ev.pos rfl (Ev.bind (a:=0) (Ev.lt 0 fun k hk=>by rw [date_check _ _ _ k hk,if_pos R1]) (Ev.pos rfl (Ev.bind (a:=0) (Ev.lt 0 fun k hk=>by rw [date_check _ _ _ k hk,if_pos R2]) ?_))))
      refine Ev.unroll ?_
      simp only [count_Year.j0]
      exact Ev.neg (by decide) (Ev.bind (a:=sgI (num a0 a1 a2) (num b0 b1 b2)) (Ev.lt 3 fun k hk=>by rw [cmp_eq _ _ _ _ _ _ k hk,or3_num R1 R2]) (Ev.pos (by unfold sgI;(repeat' split) <;> omega) (Ev.const rfl)))
    · refine ⟨11,by decide,?_⟩
      unfold count_Year.f
      refine Ev.bindc (base_good hb) (Ev.pos rfl (Ev.bind (a:=0) (Ev.lt 0 fun k hk=>by rw [date_check _ _ _ k hk,if_pos R1]) (Ev.pos rfl (Ev.bind (a:=11) (Ev.lt 0 fun k hk=>by rw [date_check _ _ _ k hk,if_neg R2]) ?_))))
      refine Ev.unroll ?_
      simp only [count_Year.j0]
      exact Ev.pos (by decide) (Ev.const rfl)
  · refine ⟨11,by decide,?_⟩
    unfold count_Year.f
    refine Ev.bindc (base_good hb) (Ev.pos rfl (Ev.bind (a:=11) (Ev.lt 0 fun k hk=>by rw [date_check _ _ _ k hk,if_neg R1]) (Ev.neg (by decide) ?_)))
    refine Ev.unroll ?_
    simp only [count_Year.j0]
    exact Ev.pos (by decide) (Ev.const rfl)
theorem years_of {b:Int} {L:List (D3×D3)} (hL:L.length≤1000) {R:List Int×Bool×List Int×Int} (h:Ev (fun k=>split_Weighted.f k b (L.map ofP) ((List.replicate L.length (1:Rat)).map ofQ)) R):Ev (fun k=>split_Years.f k b (L.map ofP)) R:=by
  unfold split_Years.f
  have h1:=wFrom 1 (by decide)
  have h2:=fFrom 1
  refine Ev.bind h1 (Ev.bindc h2 ?_)
  refine Ev.bindc (x:=(List.replicate L.length (1:Rat)).map ofQ) ?_ (Ev.bind h (Ev.const rfl))
  unfold frac_Frac.f
  rw [List.length_map,if_pos ⟨rfl,by omega,by omega⟩,List.map_replicate,Int.toNat_natCast]
  rfl
def yearsQ (b:Int) (L:List (D3×D3)):Rat:=sumW b L (List.replicate L.length 1) 0
theorem years_ev {b:Int} (hb:0≤b∧b < 3) {L:List (D3×D3)} (hL:L.length≤1000) (good : ∀ p ∈ L,GoodP p) :
    Ev (fun k=>split_Years.f k b (L.map ofP)) (lim (yearsQ b L).num.natAbs,decide ((yearsQ b L).num < 0),lim ((yearsQ b L).den - 1),0)∧Sz (8 * L.length + 1) (yearsQ b L):=by
  obtain ⟨h1,h2⟩:=weighted_ev hb hL (Q:=List.replicate L.length (1:Rat)) (by simp) (fun q hq=>by rw [(List.mem_replicate.1 hq).2];exact sz_one) good
  exact ⟨years_of hL h1,h2⟩
theorem years_nil (b:Int):Ev (fun k=>split_Years.f k b ([]:List S55)) (([]:List Int),false,([]:List Int),0):=by
  refine years_of (L:=[]) (by decide) ?_
  unfold split_Weighted.f
  refine Ev.pos rfl (Ev.unroll ?_)
  simp only [split_Weighted.l0]
  exact Ev.neg (by decide) (Ev.const rfl)
theorem years_last {b:Int} (hb:0≤b∧b < 3) {L:List (D3×D3)} {p:D3×D3} (hL:L.length≤900) (good : ∀ p ∈ L,GoodP p) {e:Int} (he:e≠0) (hy:Ev (fun k=>count_Year.f k b p.1.1 p.1.2.1 p.1.2.2 p.2.1 p.2.2.1 p.2.2.2) (([]:List Int),false,([]:List Int),e)) :
    Ev (fun k=>split_Years.f k b ((L ++ [p]).map ofP)) (([]:List Int),false,([]:List Int),e):=by
  have hl:(L ++ [p]).length=L.length + 1:=by simp
  refine years_of (by omega) ?_
  have hz:=zero_frac
  injection hz with z1 hz
  injection hz with z2 z3
  have key:=weighted_to hb (L:=L ++ [p]) (Q:=List.replicate (L ++ [p]).length (1:Rat)) (by omega) (by simp) (fun q hq=>by rw [(List.mem_replicate.1 hq).2];exact sz_one) (m:=L.length) (by omega)
    (fun i h hi=>by rw [List.getElem_append_left hi];exact good _ (List.getElem_mem hi)) (R:=(([]:List Int),false,([]:List Int),e)) L.length 0 0 (by omega) (szq_zero (by omega)) fun s' _ hs'=>by
    have c1:(L.length:Int) < ((L ++ [p]).length:Int):=by omega
    have c3:(L.length:Int) < (((L ++ [p]).map ofP).length:Int):=by rw [List.length_map];exact c1
    refine Ev.unroll ?_
    simp only [split_Weighted.l0]
    rw [rd_P (L ++ [p]) L.length (by omega)]
    have e1:(L ++ [p])[L.length]'(by omega)=p:=by simp
    rw [e1]
    exact Ev.pos c1 (Ev.pos (by omega) (Ev.pos c3 (Ev.bind hy (Ev.neg he (Ev.const rfl)))))
  unfold split_Weighted.f
  rw [z1,z2,z3] at key
  rw [List.length_map,List.length_map]
  exact Ev.pos (by simp) key
theorem sign_nil:frac_Frac_Sign.f ([]:List Int) false ([]:List Int)=some 0:=by
  have h:=fSign (0:Rat) (l:=[])
  rw [show (0:Rat).num=0 from rfl,show (0:Int).natAbs=0 from rfl,lim_zero] at h
  rw [show rsg (0:Rat)=0 from rsg_zero.2 rfl] at h
  exact h
theorem wakes12e:Ev (fun k=>chattellaw12_wakes.f k) true:=Ev.of (fun k=>chattellaw12_wakes.mono k) (k:=20) (by decide +kernel)
theorem base_of {b:Int} (h:0≤b):0≤wrap64 (Int.tmod b 3)∧wrap64 (Int.tmod b 3) < 3:=by
  have e:Int.tmod b 3=b % 3:=Int.tmod_eq_emod_of_nonneg h
  rw [e,wrap_id (by omega)]
  omega
end Go.Proofs.YtakidmbnkkhojaaGreatM
