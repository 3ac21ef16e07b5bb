import Derived.Test.YtakidmbnkkhojaaGreatCaf9D
import Derived.Test.YtakidmbnkkhojaaGreatCaf9S4
import Derived.Test.YtakidmbnkkhojaaGreatCaf9A2
namespace Go.Proofs.YtakidmbnkkhojaaGreatM
open Go.RowKit Go.Proofs.YtakidmbnkkhojaaGreatW.PrintWords Go.Proofs.YtakidmbnkkhojaaGreatW.PrintLast Go.Proofs.YtakidmbnkkhojaaGreatW.PrintMore Go.Proofs.YtakidmbnkkhojaaGreatX Go.Proofs.YtakidmbnkkhojaaGreat.F Go.Proofs.YtakidmbnkkhojaaGreat
set_option linter.unusedVariables false
set_option linter.unusedSimpArgs false
def ofS (q:Rat):S71:=⟨⟨dig q.num.natAbs,decide (q.num < 0)⟩,dig q.den⟩
theorem rd_S (L:List Rat) (i:Nat) (h:i < L.length):rd_T71 (L.map ofS) (i:Int)=ofS L[i]:=by
  unfold rd_T71;rw [Int.toNat_natCast,List.getD_eq_getElem?_getD,List.getElem?_map,List.getElem?_eq_getElem h];rfl
theorem refw_l0 {b:Int} (hb:0≤b∧b < 3) {L:List (D3×D3)} {Q:List Rat} (hL:L.length≤1000) (hQ:Q.length=L.length) (sq : ∀ q ∈ Q,Sz 2 q) (good : ∀ p ∈ L,GoodP p) : ∀ (r i:Nat) (s:Rat),i + r=L.length→Sz (8 * i + 1) s →
    Ev (fun k=>chattelref12_Weighted.l0 k b (L.map ofR) (Q.map ofS) (i:Int) (dig s.num.natAbs) (decide (s.num < 0)) (dig s.den)) (dig (sumW b (L.drop i) (Q.drop i) s).num.natAbs,decide ((sumW b (L.drop i) (Q.drop i) s).num < 0),dig (sumW b (L.drop i) (Q.drop i) s).den)
  | 0,i,s,hi,hs=>by
    obtain rfl:i=L.length:=by omega
    rw [List.drop_eq_nil_of_le (Nat.le_refl _)]
    refine Ev.unroll ?_
    simp only [chattelref12_Weighted.l0]
    exact Ev.neg (by rw [List.length_map];omega) (Ev.const rfl)
  | r + 1,i,s,hi,hs=>by
    have h1:i < L.length:=by omega
    have h2:i < Q.length:=by omega
    have gp:=good _ (List.getElem_mem h1)
    have f:=rYear hb gp.1 gp.2.1 gp.2.2
    have fs:=(yf_ev hb gp.1 gp.2.1 gp.2.2).2
    have q1:=sq _ (List.getElem_mem h2)
    have m:=fMul fs q1 (by decide) (by decide)
    have a:=fAdd hs m.2 (by omega) (by decide)
    have rm:=r5Mul (dz_of fs) (dz_of q1) (by decide) (by decide)
    have ra:=r5Add (dz_of hs) (dz_of m.2) (by omega) (by decide)
    have h3:Sz (8 * (i + 1) + 1) (s + yfP b L[i] * Q[i]):=⟨Nat.le_trans a.2.1 (by omega),Nat.le_trans a.2.2 (by omega)⟩
    have ih:=refw_l0 hb hL hQ sq good r (i + 1) _ (by omega) h3
    have c1:(i:Int) < ((L.map ofR).length:Int):=by rw [List.length_map];omega
    have c4:(i:Int) < ((Q.map ofS).length:Int):=by rw [List.length_map];omega
    have hw:wrap64 ((i:Int) + 1)=((i + 1:Nat):Int):=by unfold wrap64;omega
    rw [drop_cons L i h1,drop_cons Q i h2]
    refine Ev.unroll ?_
    simp only [chattelref12_Weighted.l0]
    rw [rd_R L i h1,rd_S Q i h2,hw]
    exact Ev.pos c1 (Ev.pos (by omega) (Ev.bind f (Ev.pos c4 (Ev.bind rm (Ev.bind ra ih)))))
theorem refw_ev {b:Int} (hb:0≤b∧b < 3) {L:List (D3×D3)} {Q:List Rat} (hL:L.length≤1000) (hQ:Q.length=L.length) (sq : ∀ q ∈ Q,Sz 2 q) (good : ∀ p ∈ L,GoodP p) :
    Ev (fun k=>chattelref12_Weighted.f k b (L.map ofR) (Q.map ofS)) (dig (sumW b L Q 0).num.natAbs,decide ((sumW b L Q 0).num < 0),dig (sumW b L Q 0).den):=by
  have h0:=small_part 0 1 1 rfl (by decide) (by decide) (by decide)
  rw [show mkRat 0 1=(0:Rat) from Rat.zero_mkRat 1] at h0
  have h:=refw_l0 hb hL hQ sq good L.length 0 0 (by omega) (szq_zero (by omega))
  rw [List.drop_zero,List.drop_zero] at h
  unfold chattelref12_Weighted.f
  exact Ev.bind h0 h
theorem sum_scale {b:Int} (c:Rat) : ∀ (L:List (D3×D3)) (s:Rat),sumW b L (List.replicate L.length c) (s * c)=sumW b L (List.replicate L.length 1) s * c
  | [],s=>rfl
  | p :: L,s=>by
    rw [List.length_cons,List.replicate_succ,List.replicate_succ]
    show sumW b L (List.replicate L.length c) (s * c + yfP b p * c)=sumW b L (List.replicate L.length 1) (s + yfP b p * 1) * c
    rw [Rat.mul_one,← Rat.add_mul,sum_scale c L]
theorem sz_seven:Sz 2 (7:Rat):=sz_int (z:=7) (lim_len_le (by decide)) (by decide)
end Go.Proofs.YtakidmbnkkhojaaGreatM
