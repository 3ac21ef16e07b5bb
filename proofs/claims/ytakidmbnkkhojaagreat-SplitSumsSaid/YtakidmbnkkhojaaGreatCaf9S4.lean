import Derived.Test.YtakidmbnkkhojaaGreatCaf9D
import Derived.Test.YtakidmbnkkhojaaGreatCaf9S3
namespace Go.Proofs.YtakidmbnkkhojaaGreatM
open Go.RowKit Go.Proofs.YtakidmbnkkhojaaGreatW.PrintWords Go.Proofs.YtakidmbnkkhojaaGreatW.PrintLast Go.Proofs.YtakidmbnkkhojaaGreatW.PrintMore Go.Proofs.YtakidmbnkkhojaaGreatX Go.Proofs.YtakidmbnkkhojaaGreat.F Go.Proofs.YtakidmbnkkhojaaGreat
set_option linter.unusedVariables false
set_option linter.unusedSimpArgs false
theorem sz_one:Sz 2 (1:Rat):=sz_int (z:=1) (lim_len_le (by decide)) (by decide)
theorem years_of {b:Int} {L:List (D3×D3)} (hL:L.length≤1000) {R:List Int×Bool×List Int×Int} (h:Ev (fun k=>split_Weighted.f k b (L.map ofP) ((List.replicate L.length (1:Rat)).map ofQ)) R):Ev (fun k=>split_Years.f k b (L.map ofP)) R:=by
  unfold split_Years.f
  have h1:=wFrom 1 (by decide)
  have h2:=fFrom 1
  refine Ev.bind h1 (Ev.bindc h2 ?_)
  refine Ev.bindc (x:=(List.replicate L.length (1:Rat)).map ofQ) ?_ (Ev.bind h (Ev.const rfl))
  unfold frac_Frac.f
  rw [List.length_map,if_pos ⟨rfl,by omega,by omega⟩,List.map_replicate,Int.toNat_natCast]
  rfl
def yearsQ (b:Int) (L:List (D3×D3)):Rat:=sumW b L (List.replicate L.length 1) 0
theorem years_ev {b:Int} (hb:0≤b∧b < 3) {L:List (D3×D3)} (hL:L.length≤1000) (good : ∀ p ∈ L,GoodP p) :
    Ev (fun k=>split_Years.f k b (L.map ofP)) (lim (yearsQ b L).num.natAbs,decide ((yearsQ b L).num < 0),lim ((yearsQ b L).den - 1),0)∧Sz (8 * L.length + 1) (yearsQ b L):=by
  obtain ⟨h1,h2⟩:=weighted_ev hb hL (Q:=List.replicate L.length (1:Rat)) (by simp) (fun q hq=>by rw [(List.mem_replicate.1 hq).2];exact sz_one) good
  exact ⟨years_of hL h1,h2⟩
theorem wakes12e:Ev (fun k=>chattellaw12_wakes.f k) true:=Ev.of (fun k=>chattellaw12_wakes.mono k) (k:=20) (by decide +kernel)
theorem base_of {b:Int} (h:0≤b):0≤wrap64 (Int.tmod b 3)∧wrap64 (Int.tmod b 3) < 3:=by
  have e:Int.tmod b 3=b % 3:=Int.tmod_eq_emod_of_nonneg h
  rw [e,wrap_id (by omega)]
  omega
end Go.Proofs.YtakidmbnkkhojaaGreatM
