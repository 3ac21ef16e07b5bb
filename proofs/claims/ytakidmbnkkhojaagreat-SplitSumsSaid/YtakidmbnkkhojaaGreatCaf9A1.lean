import Derived.Test.YtakidmbnkkhojaaGreatCaf9A0
namespace Go.Proofs.YtakidmbnkkhojaaGreatM
open Go.RowKit Go.Proofs.YtakidmbnkkhojaaGreatW.PrintWords Go.Proofs.YtakidmbnkkhojaaGreatW.PrintLast Go.Proofs.YtakidmbnkkhojaaGreatW.PrintMore Go.Proofs.YtakidmbnkkhojaaGreatX Go.Proofs.YtakidmbnkkhojaaGreat.F
set_option linter.unusedVariables false
set_option linter.unusedSimpArgs false
theorem first_num (y:Int):num y 1 1=aheadOf y + 1:=by unfold num;simp [mdays]
theorem last_num {y:Int} (h:1≤y∧y≤9999):num y 12 31 - num y 1 1 + 1=(ydN y:Int):=by
  have e:=year_days h
  have e2:mdays y 12=mdays y 11 + days y 12:=by
    simp only [mdays]
    rfl
  have e3:days y 12=31:=by rw [days_in h (by decide)];unfold dm;simp
  rw [first_num]
  have:num y 12 31=aheadOf y + mdays y 11 + 31:=rfl
  unfold ydN
  split at e
  · rename_i hl;rw [if_pos hl];omega
  · rename_i hl;rw [if_neg hl];omega
def acc (y m d:Int):Rat:=(y:Rat) + mkRat (num y m d - num y 1 1) (ydN y)
theorem mk_sub (a b:Int) (n:Nat):mkRat (a - b) n=mkRat a n - mkRat b n:=by
  rw [Rat.mkRat_eq_div,Rat.mkRat_eq_div,Rat.mkRat_eq_div,Rat.intCast_sub]
  grind
theorem mk_self {n:Nat} (h:0 < n):mkRat (n:Int) n=1:=by
  rw [Rat.mkRat_eq_div]
  have h0:((n:Nat):Rat)≠0:=by
    intro e
    have:=Rat.natCast_eq_zero_iff.1 e
    omega
  have e1:(((n:Nat):Int):Rat)=((n:Nat):Rat):=Rat.intCast_natCast n
  rw [e1]
  grind
theorem mk_one (z:Int):mkRat z 1=(z:Rat):=by
  rw [Rat.mkRat_eq_div]
  have:((1:Nat):Rat)=1:=rfl
  rw [this]
  grind
theorem actQ_acc {y m d y2 m2 d2:Int} (h1:Right y m d) (h2:Right y2 m2 d2):actQ y m d y2 m2 d2=acc y2 m2 d2 - acc y m d:=by
  unfold actQ acc
  by_cases e:y=y2
  · subst e
    rw [if_pos rfl,mk_sub,mk_sub,mk_sub]
    grind
  · rw [if_neg e]
    have l:=last_num h1.in_.1
    have e1:num y 12 31 - num y m d + 1=(ydN y:Int) - (num y m d - num y 1 1):=by omega
    rw [e1,mk_sub,mk_self (ydN_pos y),mk_one,Rat.intCast_sub,Rat.intCast_sub]
    have:((1:Int):Rat)=1:=rfl
    rw [this]
    grind
end Go.Proofs.YtakidmbnkkhojaaGreatM
