import Derived.Test.YtakidmbnkkhojaaGreatC942D
import Derived.Test.YtakidmbnkkhojaaGreatC942S2
namespace Go.Proofs.YtakidmbnkkhojaaGreatM
open Go.RowKit Go.Proofs.YtakidmbnkkhojaaGreatW.PrintWords Go.Proofs.YtakidmbnkkhojaaGreatW.PrintLast Go.Proofs.YtakidmbnkkhojaaGreatW.PrintMore Go.Proofs.YtakidmbnkkhojaaGreatX Go.Proofs.YtakidmbnkkhojaaGreat.F Go.Proofs.YtakidmbnkkhojaaGreat
set_option linter.unusedVariables false
set_option linter.unusedSimpArgs false
theorem add_cases {x:D3} (hx:RightD x) (a:Int):(∃ q:D3,RightD q∧numD q=numD x + a∧∀ k,20200 < k→month_AddDays.f k x.1 x.2.1 x.2.2 a=some (q.1,q.2.1,q.2.2,0)) ∨
    ∀ k,20200 < k→month_AddDays.f k x.1 x.2.1 x.2.2 a=some (0,0,0,11):=by
  by_cases h:1≤numD x + a∧numD x + a≤3652059
  · obtain ⟨y2,m2,d2,h1,h2,h3⟩:=further hx h
    exact .inl ⟨(y2,m2,d2),h1,h2,h3⟩
  · exact .inr fun k hk=>further_none hx (by unfold numD at h;omega) k hk
structure Made (x y:D3) (l:List S28):Prop where
  rx:RightD x
  ry:RightD y
  le:numD x≤numD y
  cuts : ∀ c ∈ l.map toD,RightD c
  len:l.length≤12
theorem time_l0 (L:List Int) (hL:L.length≤12) {x:D3} (hx:RightD x) (y:D3) : ∀ (r i:Nat) (acc:List S28),i + r=L.length→acc.length≤i→(∀ c ∈ acc.map toD,RightD c)→∃ l:List S28,l.length≤12∧(∀ c ∈ l.map toD,RightD c)∧∀ k,20200 + r < k →
    chattellaw12_Time_make.l0 k acc L (L.length:Int) i x.1 x.2.1 x.2.2 y.1 y.2.1 y.2.2=some (x.1,x.2.1,x.2.2,y.1,y.2.1,y.2.2,l)
  | 0,i,acc,hi,ha,hr=>by
    refine ⟨acc,by omega,hr,fun k hk=>?_⟩
    obtain ⟨k,rfl⟩ : ∃ j,k=j + 1:=⟨k - 1,by omega⟩
    have c1 : ¬ (i:Int) < (L.length:Int):=by omega
    simp only [chattellaw12_Time_make.l0]
    rw [if_neg c1]
  | r + 1,i,acc,hi,ha,hr=>by
    have c1:(i:Int) < (L.length:Int):=by omega
    have c2:(0:Int)≤(i:Int):=by omega
    have c5:i + 1 + r=L.length:=by omega
    have c7:acc.length < 5864062014805:=by omega
    have hw:wrap64 ((i:Int) + 1)=((i + 1:Nat):Int):=by unfold wrap64;omega
    rcases add_cases hx (Int.tmod (wrap64 (rd L i)) 2200) with ⟨q,q1,_,hq⟩|hq
    · obtain ⟨l,h1,h1r,h2⟩:=time_l0 L hL hx y r (i + 1) (acc ++ [⟨q.1,q.2.1,q.2.2⟩]) c5 (by rw [List.length_append];simp only [List.length_cons,List.length_nil];omega) (fun c hc=>by
        rw [List.map_append,List.mem_append] at hc
        rcases hc with hc|hc
        · exact hr c hc
        · rw [List.map_cons,List.map_nil,List.mem_singleton] at hc
          subst hc
          exact q1)
      refine ⟨l,h1,h1r,fun k hk=>?_⟩
      obtain ⟨k,rfl⟩ : ∃ j,k=j + 1:=⟨k - 1,by omega⟩
      have c8:20200 < k:=by omega
      have c9:20200 + r < k:=by omega
      simp only [chattellaw12_Time_make.l0]
      rw [if_pos c1,if_pos c2,if_pos c1,hq k c8,Option.bind_some,if_pos rfl,if_pos c7,hw]
      exact h2 k c9
    · obtain ⟨l,h1,h1r,h2⟩:=time_l0 L hL hx y r (i + 1) acc c5 (by omega) hr
      refine ⟨l,h1,h1r,fun k hk=>?_⟩
      obtain ⟨k,rfl⟩ : ∃ j,k=j + 1:=⟨k - 1,by omega⟩
      have c8:20200 < k:=by omega
      have c9:20200 + r < k:=by omega
      simp only [chattellaw12_Time_make.l0]
      rw [if_pos c1,if_pos c2,if_pos c1,hq k c8,Option.bind_some,if_neg (by decide),hw]
      exact h2 k c9
theorem made_top (a b c:Int):1≤numD (made a b c 9900)∧numD (made a b c 9900) + 1999≤3652059:=by
  have h:=made_right a b c 9900 (by decide) (by decide)
  have h1:=num_in h.1
  have h2:=num_top h.1
  have h3:=ahead_mono (y:=(made a b c 9900).1 + 1) (z:=9901) (by have:=h.1.in_.1;omega) (by have:=h.2;omega)
  have h4:aheadOf 9901=3615900:=by decide
  unfold numD
  omega
theorem made_time (a0 a1 a2 a3 a6:Int) (l4 l5:List Int) (h3:0≤a3∧a3≤65535) : ∃ x y:D3,∃ l:List S28,Made x y l∧∀ k,30000 < k→chattellaw12_Time_make.f k a0 a1 a2 a3 l4 l5 a6=some (x.1,x.2.1,x.2.2,y.1,y.2.1,y.2.2,l):=by
  have hx:RightD (made a0 a1 a2 9900):=(made_right a0 a1 a2 9900 (by decide) (by decide)).1
  have ht:=made_top a0 a1 a2
  obtain ⟨x,ex⟩ : ∃ x,x=made a0 a1 a2 9900:=⟨_,rfl⟩
  rw [← ex] at hx ht
  have hm:Int.tmod a3 2000=a3 % 2000:=Int.tmod_eq_emod_of_nonneg h3.1
  have hw:wrap64 (Int.tmod a3 2000)=a3 % 2000:=by rw [hm];exact wrap_id (by omega)
  rcases add_cases hx (a3 % 2000) with ⟨q,q1,q2,hq⟩|hq
  case inr =>
    exfalso
    obtain ⟨y2,m2,d2,_,_,h⟩:=further hx (a:=a3 % 2000) (by unfold numD at ht;omega)
    have:=(hq 20201 (by omega)).symm.trans (h 20201 (by omega))
    injection this with this
    injection this with _ this
    injection this with _ this
    injection this with _ this
    cases this
  have hn:(mn (l4.length:Int) 12)=((min l4.length 12:Nat):Int):=by rw [mn_eq];omega
  have hlen:(l4.take (min l4.length 12)).length=min l4.length 12:=by rw [List.length_take];omega
  obtain ⟨l,h1,h1r,h2⟩:=time_l0 (l4.take (min l4.length 12)) (by rw [hlen];omega) hx q (l4.take (min l4.length 12)).length 0 [] (by omega) (Nat.le_refl _) (fun c hc=>by simp at hc)
  refine ⟨x,q,l,⟨hx,q1,by omega,h1r,h1⟩,fun k hk=>?_⟩
  have c1:2 < k:=by omega
  have c2:20200 < k:=by omega
  have c3:(0:Int)≤((min l4.length 12:Nat):Int):=by omega
  have c4:((min l4.length 12:Nat):Int)≤(l4.length:Int):=by omega
  have c5:20200 + (l4.take (min l4.length 12)).length < k:=by rw [hlen];omega
  unfold chattellaw12_Time_make.f
  rw [make_eq a0 a1 a2 9900 (by omega) (by omega) k c1,Option.bind_some,← ex,hw,hq k c2,Option.bind_some,hn,if_pos c3,if_pos c4,Int.toNat_natCast]
  exact h2 k c5
def follows (z:D3):D3→List (D3×D3)→Prop
  | a,[]=>a=z
  | a,p :: L=>p.1=a∧cmpD p.1 p.2 < 0∧follows z p.2 L
theorem chain_count : ∀ (L:List D3) (a:D3),(chainD a L).length≤L.length
  | [],a=>by simp [chainD]
  | x :: L,a=>by
    have:=chain_count L x
    unfold chainD
    split
    · simp only [List.length_cons];omega
    · simp only [List.length_cons];omega
def cutsD (x y:D3) (l:List D3):List D3:=srtD (l.filter fun z=>!delD x y z) ++ [y]
structure Cut (x y:D3) (l T:List D3):Prop where
  pw:(x :: T).Pairwise leD
  right : ∀ z ∈ T,RightD z
  last:lstD x T=y
  len:T.length≤l.length + 1
  mem : ∀ z,z ∈ srtD (l.filter fun z=>!delD x y z) ↔ (z ∈ l∧cmpD x z < 0∧cmpD z y < 0)
theorem cut_mem (x y:D3) (l:List D3) : ∀ z,z ∈ srtD (l.filter fun z=>!delD x y z) ↔ (z ∈ l∧cmpD x z < 0∧cmpD z y < 0):=by
  intro z
  rw [(srtD_perm _).mem_iff,List.mem_filter]
  unfold delD
  have h1:cmpD z x≤0 ↔ ¬ cmpD x z < 0:=by rw [← gt_lt];omega
  simp only [Bool.not_or,Bool.and_eq_true,Bool.not_eq_true',decide_eq_false_iff_not,h1]
  constructor
  · rintro ⟨p,q,r⟩;exact ⟨p,by omega,by omega⟩
  · rintro ⟨p,q,r⟩;exact ⟨p,by omega,by omega⟩
theorem cuts_cut {x y:D3} {l:List D3} (hx:RightD x) (hy:RightD y) (hle:numD x≤numD y) (hl : ∀ z ∈ l,RightD z):Cut x y l (cutsD x y l):=by
  have hm:=cut_mem x y l
  have hxy:leD x y:=(le_num hx hy).2 hle
  refine ⟨?_,?_,lastD_snoc _ _ _,?_,hm⟩
  · refine List.pairwise_cons.2 ⟨fun z hz=>?_,?_⟩
    · rcases List.mem_append.1 hz with h|h
      · exact le_of_lt ((hm z).1 h).2.1
      · rw [List.mem_singleton] at h;subst h;exact hxy
    · refine List.pairwise_append.2 ⟨srtD_pw _,List.pairwise_singleton _ _,fun a ha b hb=>?_⟩
      rw [List.mem_singleton] at hb
      subst hb
      exact le_of_lt ((hm a).1 ha).2.2
  · intro z hz
    rcases List.mem_append.1 hz with h|h
    · exact hl z ((hm z).1 h).1
    · rw [List.mem_singleton] at h;subst h;exact hy
  · have h2:=(srtD_perm (l.filter fun z=>!delD x y z)).length_eq
    have h3:=List.length_filter_le (fun z=>!delD x y z) l
    unfold cutsD
    rw [List.length_append,List.length_singleton]
    omega
theorem wr_right {x:D3} (h:RightD x):wrD x=false:=by
  have e:wrD x=!(decide (Right x.1 x.2.1 x.2.2)):=rfl
  rw [e,decide_eq_true (show Right x.1 x.2.1 x.2.2 from h)];rfl
theorem parts_good {x y:D3} {l:List D3} (hx:RightD x) (hy:RightD y) (hle:numD x≤numD y) (hl : ∀ z ∈ l,RightD z):partsD wrD x y l=(chainD x (cutsD x y l),0):=by
  have h1:l.any wrD=false:=List.any_eq_false.2 fun z hz=>by rw [wr_right (hl z hz)];decide
  have h2:leD x y:=(le_num hx hy).2 hle
  unfold partsD
  rw [wr_right hx,wr_right hy,h1]
  rw [if_neg (by decide),if_neg (by unfold leD at h2;omega)]
  unfold atD cutsD
  rw [chain_compact]
theorem parts_ev {x y:D3} {l:List S28} (hx:RightD x) (hy:RightD y) (hle:numD x≤numD y) (hl : ∀ z ∈ l.map toD,RightD z) (hn:l.length≤1000) :
    split_Parts.f x.1 x.2.1 x.2.2 y.1 y.2.1 y.2.2 l=some ((chainD x (cutsD x y (l.map toD))).map ofP,0):=by
  unfold split_Parts.f
  rw [if_pos (by omega)]
  have e:partsD wrD (x.1,x.2.1,x.2.2) (y.1,y.2.1,y.2.2) (l.map toD)=(chainD x (cutsD x y (l.map toD)),0):=parts_good hx hy hle hl
  rw [e]
end Go.Proofs.YtakidmbnkkhojaaGreatM
