-- Joined of: M0 M1 E0 D0 D1a D3 D3b D6 D6b D2c D8 M2 M3 Q2 Q3 Q6 Q8 R1 R2
import Derived.Test.YtakidmbnkkhojaaGreatC942WMore
import Derived.Test.YtakidmbnkkhojaaGreatC942D
import Derived.Laws.Bits64b
section
namespace Go.Proofs.YtakidmbnkkhojaaGreatM
open Go.RowKit Go.Proofs.YtakidmbnkkhojaaGreatW.PrintWords Go.Proofs.YtakidmbnkkhojaaGreatW.PrintLast Go.Proofs.YtakidmbnkkhojaaGreatW.PrintMore
set_option linter.unusedVariables false
set_option linter.unusedSimpArgs false
def wf (B:Int) (l:List Int):Prop:=∀ x ∈ l,0≤x∧x < B
def vl (B:Int):List Int→Int
  | []=>0
  | x :: xs=>x + B * vl B xs
theorem getD_set_ne (l:List Int) (i j:Nat) (x d:Int) (h:i≠j):(l.set i x).getD j d=l.getD j d:=by
  rw [List.getD_eq_getElem?_getD,List.getElem?_set_ne h,List.getD_eq_getElem?_getD]
def dg (B n:Nat):List Int:=if h:n=0∨B < 2 then [] else ((n % B:Nat):Int) :: dg B (n / B)
termination_by n
decreasing_by exact Nat.div_lt_self (by omega) (by omega)
theorem wrap_id {x:Int} (h : -9223372036854775808≤x∧x≤9223372036854775807):wrap64 x=x:=by unfold wrap64;omega
theorem u64_wrap (x:Int):IntKind.u64.wrap x=x % 18446744073709551616:=by
  first|rfl|simp [IntKind.wrap,IntKind.bits]
theorem u64_id {x:Int} (h:0≤x∧x < 18446744073709551616):IntKind.u64.wrap x=x:=by rw [u64_wrap];omega
theorem mn_eq (a b:Int):mn a b=min a b:=by unfold mn;split <;> omega
end Go.Proofs.YtakidmbnkkhojaaGreatM
end

section
namespace Go.Proofs.YtakidmbnkkhojaaGreatM
open Go.RowKit Go.Proofs.YtakidmbnkkhojaaGreatW.PrintWords Go.Proofs.YtakidmbnkkhojaaGreatW.PrintLast Go.Proofs.YtakidmbnkkhojaaGreatW.PrintMore Go.Proofs.YtakidmbnkkhojaaGreatX Go.Proofs.YtakidmbnkkhojaaGreat.F
set_option linter.unusedVariables false
set_option linter.unusedSimpArgs false
theorem Ev.unroll {α:Type} {g:Nat→Option α} {r:α} (h:Ev (fun k=>g (k + 1)) r):Ev g r:=Ev.step (fun _=>rfl) h
theorem Ev.pos {α:Type} {a b:Nat→Option α} {r:α} {c:Prop} [Decidable c] (h:c) (e:Ev a r):Ev (fun k=>if c then a k else b k) r:=by
  simp only [if_pos h];exact e
theorem Ev.neg {α:Type} {a b:Nat→Option α} {r:α} {c:Prop} [Decidable c] (h : ¬ c) (e:Ev b r):Ev (fun k=>if c then a k else b k) r:=by
  simp only [if_neg h];exact e
theorem Ev.const {α:Type} {a:Option α} {r:α} (h:a=some r):Ev (fun _=>a) r:=⟨0,fun _ _=>h⟩
theorem Ev.bindc {α β:Type} {a:Option α} {x:α} {f:Nat→α→Option β} {r:β} (h:a=some x) (e:Ev (fun k=>f k x) r):Ev (fun k=>a.bind (f k)) r:=by
  subst h;exact e
theorem Ev.lt {α:Type} {g:Nat→Option α} {r:α} (n:Nat) (h : ∀ k,n < k→g k=some r):Ev g r:=⟨n + 1,fun k hk=>h k hk⟩
abbrev W:Nat:=18446744073709551616
theorem W2:2≤W:=by decide
def lim (n:Nat):List Int:=dg W n
abbrev wfW (l:List Int):Prop:=wf ((W:Nat):Int) l
abbrev vW (l:List Int):Int:=vl ((W:Nat):Int) l
structure AddInv (a b x:List Int) (c:Int) (n i:Nat):Prop where
  w:wfW x
  len:x.length=n
  c0:0≤c∧c≤1
  z : ∀ j,i≤j→x.getD j 0=0
  v:vW x + c * ((W:Nat):Int) ^ i=vW (a.take i) + vW (b.take i)
end Go.Proofs.YtakidmbnkkhojaaGreatM
end

section
namespace Go.Proofs.YtakidmbnkkhojaaGreatM
open Go.RowKit Go.Proofs.YtakidmbnkkhojaaGreatW.PrintWords Go.Proofs.YtakidmbnkkhojaaGreatW.PrintLast Go.Proofs.YtakidmbnkkhojaaGreatW.PrintMore
set_option linter.unusedVariables false
set_option linter.unusedSimpArgs false
theorem u16_of {x:Int} (h:(Lit.int .u16 x).wf=true):0≤x∧x≤65535:=by
  simp [Lit.wf,IntKind.min,IntKind.max,IntKind.signed,IntKind.bits] at h
  exact h
theorem tmod_pos_ {a:Int} (b:Int) (h:0≤a):Int.tmod a b=a % b:=Int.tmod_eq_emod_of_nonneg h
theorem tdiv_pos_ {a:Int} (b:Int) (h:0≤a):Int.tdiv a b=a / b:=Int.tdiv_eq_ediv_of_nonneg h
end Go.Proofs.YtakidmbnkkhojaaGreatM
end

section
namespace Go.Proofs.YtakidmbnkkhojaaGreatM
open Go.RowKit Go.Proofs.YtakidmbnkkhojaaGreatW.PrintWords Go.Proofs.YtakidmbnkkhojaaGreatW.PrintLast Go.Proofs.YtakidmbnkkhojaaGreatW.PrintMore Go.Proofs.YtakidmbnkkhojaaGreatX Go.Proofs.YtakidmbnkkhojaaGreat.F
set_option linter.unusedVariables false
set_option linter.unusedSimpArgs false
def leap (y:Int):Bool:=decide ((y % 4=0∧y % 100≠0)∨y % 400=0)
def dm (y m:Int):Int:=if m=2 then (if leap y=true then 29 else 28) else if m=4∨m=6∨m=9∨m=11 then 30 else 31
def days (y m:Int):Int:=if 1≤y∧y≤9999∧1≤m∧m≤12 then dm y m else 0
def Right (y m d:Int):Prop:=1≤d∧d≤days y m
instance (y m d:Int):Decidable (Right y m d):=inferInstanceAs (Decidable (_∧_))
theorem dm_bd (y m:Int):28≤dm y m∧dm y m≤31:=by unfold dm;repeat' split <;> omega
theorem days_in {y m:Int} (h:1≤y∧y≤9999) (h2:1≤m∧m≤12):days y m=dm y m:=if_pos ⟨h.1,h.2,h2.1,h2.2⟩
theorem days_bd (y m:Int):0≤days y m∧days y m≤31:=by
  unfold days
  have:=dm_bd y m
  split <;> omega
theorem Right.in_ {y m d:Int} (h:Right y m d):(1≤y∧y≤9999)∧(1≤m∧m≤12)∧1≤d∧d≤31:=by
  obtain ⟨h1,h2⟩:=h
  have:=days_bd y m
  unfold days at h2 this
  split at h2
  · rename_i h3
    rw [if_pos h3] at this
    exact ⟨⟨h3.1,h3.2.1⟩,⟨h3.2.2.1,h3.2.2.2⟩,h1,by omega⟩
  · omega
theorem date_leap (y:Int):date_Leap.f y=some (decide (1≤y∧y≤9999) && leap y):=by
  unfold date_Leap.f date_good.f
  by_cases h1:1≤y
  · rw [if_pos h1,Option.bind_some]
    by_cases h2:y≤9999
    · rw [decide_eq_true h2,if_pos rfl,tmod_pos_ _ (by omega),tmod_pos_ _ (by omega),tmod_pos_ _ (by omega)]
      unfold leap
      by_cases a:y % 4=0
      · rw [if_pos a]
        by_cases b:y % 100=0
        · rw [if_pos b]
          by_cases c:y % 400=0 <;> simp [a,b,c,h1,h2]
        · rw [if_neg b]
          simp [a,b,h1,h2]
      · rw [if_neg a]
        have c : ¬ y % 400=0:=by omega
        simp [a,c,h1,h2]
    · rw [decide_eq_false h2,if_neg (by decide)]
      simp [h2]
  · rw [if_neg h1,Option.bind_some,if_neg (by decide)]
    simp [h1]
theorem tab12 {m:Int} (h:1≤m∧m≤12):0≤wrap64 (m - 1)∧wrap64 (m - 1) < 12 ∧
    rd ([31,28,31,30,31,30,31,31,30,31,30,31]:List Int) (wrap64 (m - 1))=if m=2 then 28 else if m=4∨m=6∨m=9∨m=11 then 30 else 31:=by
  have:m=1∨m=2∨m=3∨m=4∨m=5∨m=6∨m=7∨m=8∨m=9∨m=10∨m=11∨m=12:=by omega
  rcases this with h|h|h|h|h|h|h|h|h|h|h|h <;> (subst h;decide +kernel)
theorem date_days (y m:Int) (k:Nat) (hk:0 < k):date_Days.f k y m=some (days y m):=by
  obtain ⟨k,rfl⟩ : ∃ j,k=j + 1:=⟨k - 1,by omega⟩
  unfold date_Days.f date_good.f days
  by_cases h1:1≤y
  · rw [if_pos h1,Option.bind_some]
    by_cases h2:y≤9999
    · rw [decide_eq_true h2,if_pos rfl]
      by_cases h3:m < 1
      · rw [if_pos h3,if_neg (by omega)]
        simp only [date_Days.j0,if_true]
      · rw [if_neg h3]
        by_cases h4:m > 12
        · rw [decide_eq_true h4,if_neg (by omega)]
          simp only [date_Days.j0,if_true]
        · rw [decide_eq_false h4,if_pos ⟨h1,h2,by omega,by omega⟩]
          obtain ⟨t1,t2,t3⟩:=tab12 (m:=m) (by omega)
          simp only [date_Days.j0,date_leap,Option.bind_some,if_pos t1,if_pos t2,t3]
          rw [if_neg (by decide)]
          unfold dm
          by_cases h5:m=2
          · simp only [if_pos h5,decide_eq_true (show 1≤y∧y≤9999 from ⟨h1,h2⟩),Bool.true_and]
            split <;> rfl
          · simp only [if_neg h5]
    · rw [decide_eq_false h2,if_neg (by decide),if_neg (by omega)]
      simp only [date_Days.j0,if_true]
  · rw [if_neg h1,Option.bind_some,if_neg (by decide),if_neg (by omega)]
    simp only [date_Days.j0,if_true]
theorem date_check (y m d:Int) (k:Nat) (hk:0 < k):date_Check.f k y m d=some (if Right y m d then 0 else 11):=by
  unfold date_Check.f
  by_cases h:d < 1
  · rw [if_pos h,if_neg (fun h2:Right y m d=>by have:=h2.1;omega)]
  · rw [if_neg h,date_days y m k hk,Option.bind_some]
    by_cases h2:d > days y m
    · rw [if_pos h2,if_neg (fun h3:Right y m d=>by have:=h3.2;omega)]
    · rw [if_neg h2,if_pos (show Right y m d from ⟨by omega,by omega⟩)]
theorem ref_leap (y:Int) (k:Nat) (hk:0 < k):chattelref09_Leap.f k y=some (decide (1≤y∧y≤9999) && leap y):=by
  obtain ⟨k,rfl⟩ : ∃ j,k=j + 1:=⟨k - 1,by omega⟩
  unfold chattelref09_Leap.f
  by_cases h1:y < 1
  · rw [if_pos h1]
    simp only [chattelref09_Leap.j0,if_true]
    rw [decide_eq_false (by omega)]
    rfl
  · rw [if_neg h1]
    by_cases h2:y > 9999
    · rw [decide_eq_true h2,decide_eq_false (by omega)]
      simp only [chattelref09_Leap.j0,if_true]
      rfl
    · rw [decide_eq_false h2,decide_eq_true (by omega)]
      simp only [chattelref09_Leap.j0]
      rw [if_neg (by decide),tmod_pos_ _ (by omega),tmod_pos_ _ (by omega),tmod_pos_ _ (by omega)]
      unfold leap
      by_cases a:y % 400=0
      · simp [a]
      · rw [if_neg a]
        by_cases b:y % 4=0
        · rw [if_pos b]
          by_cases c:y % 100=0 <;> simp [a,b,c]
        · simp [a,b]
theorem ref_days (y m:Int) (k:Nat) (hk:1 < k):chattelref09_Days.f k y m=some (days y m):=by
  obtain ⟨k,rfl⟩ : ∃ j,k=j + 1:=⟨k - 1,by omega⟩
  unfold chattelref09_Days.f days
  by_cases h1:y < 1
  · rw [if_pos h1,if_neg (by omega)]
    simp only [chattelref09_Days.j0,if_true]
  · rw [if_neg h1]
    by_cases h2:y > 9999
    · rw [if_pos h2,if_neg (by omega)]
      simp only [chattelref09_Days.j0,if_true]
    · rw [if_neg h2]
      by_cases h3:m < 1
      · rw [if_pos h3,if_neg (by omega)]
        simp only [chattelref09_Days.j0,if_true]
      · rw [if_neg h3]
        by_cases h4:m > 12
        · rw [decide_eq_true h4,if_neg (by omega)]
          simp only [chattelref09_Days.j0,if_true]
        · rw [decide_eq_false h4,if_pos ⟨by omega,by omega,by omega,by omega⟩]
          simp only [chattelref09_Days.j0,ref_leap y k (by omega),Option.bind_some,decide_eq_true (show 1≤y∧y≤9999 by omega),Bool.true_and]
          rw [if_neg (by decide)]
          unfold dm
          by_cases h5:m=2
          · simp only [if_pos h5]
            split <;> rfl
          · simp only [if_neg h5]
            by_cases a:m=4
            · simp [a]
            · by_cases b:m=6
              · simp [b]
              · by_cases c:m=9
                · simp [c]
                · by_cases d:m=11
                  · simp [d]
                  · simp [a,b,c,d]
def made (a b c n:Int):Int×Int×Int:=(a % n + 1,b % 12 + 1,c % days (a % n + 1) (b % 12 + 1) + 1)
theorem tmod_fix (a:Int) {n:Int} (hn:0 < n):(if Int.tmod a n < 0 then Int.tmod a n + n else Int.tmod a n)=a % n:=by
  rw [Int.tmod_eq_emod]
  have h1:=Int.emod_nonneg a (show n≠0 by omega)
  have h2:=Int.emod_lt_of_pos a hn
  split <;> split <;> omega
theorem tmod_n {a n:Int} (hn:0 < n) (hm:n≤10000) (h:Int.tmod a n < 0):wrap64 (Int.tmod a n + n)=a % n:=by
  have h1:=tmod_fix a hn
  rw [if_pos h] at h1
  have h2:=Int.emod_nonneg a (show n≠0 by omega)
  have h3:=Int.emod_lt_of_pos a hn
  rw [wrap_id (by omega),h1]
theorem tmod_p {a n:Int} (hn:0 < n) (h : ¬ Int.tmod a n < 0):Int.tmod a n=a % n:=by
  have h1:=tmod_fix a hn
  rw [if_neg h] at h1
  exact h1
theorem make_days (y m c:Int) (k:Nat) (hk:1 < k) (hy:1≤y∧y≤9999) (hm:1≤m∧m≤12) :
    ((chattelref09_Days.f k y m).bind fun t=>if t=0 then (none:Option (Int×Int×Int)) else if Int.tmod c t < 0 then some (y,m,wrap64 (wrap64 (Int.tmod c t + t) + 1)) else some (y,m,wrap64 (Int.tmod c t + 1)))=some (y,m,c % days y m + 1):=by
  rw [ref_days y m k hk,Option.bind_some]
  have h1:=days_in hy hm
  have h2:=dm_bd y m
  generalize days y m=t at *
  rw [if_neg (by omega)]
  have h3:=Int.emod_nonneg c (show t≠0 by omega)
  have h4:=Int.emod_lt_of_pos c (show 0 < t by omega)
  by_cases h:Int.tmod c t < 0
  · rw [if_pos h,tmod_n (by omega) (by omega) h,wrap_id (by omega)]
  · rw [if_neg h,tmod_p (by omega) h,wrap_id (by omega)]
theorem make_eq (a b c n:Int) (hn:0 < n) (hn2:n≤9999) (k:Nat) (hk:2 < k):chattelref09_Make.f k a b c n=some (made a b c n):=by
  obtain ⟨k,rfl⟩ : ∃ j,k=j + 1:=⟨k - 1,by omega⟩
  unfold chattelref09_Make.f
  rw [if_neg (by omega)]
  have h1:=Int.emod_nonneg a (show n≠0 by omega)
  have h2:=Int.emod_lt_of_pos a hn
  have h3:=Int.emod_nonneg b (show (12:Int)≠0 by omega)
  have h4:=Int.emod_lt_of_pos b (show (0:Int) < 12 by omega)
  have hj:chattelref09_Make.j0 (k + 1) (a % n) a b c=some (made a b c n):=by
    simp only [chattelref09_Make.j0]
    rw [wrap_id (x:=a % n + 1) (by omega)]
    by_cases h:Int.tmod b 12 < 0
    · rw [if_pos h,tmod_n (by omega) (by omega) h,wrap_id (x:=b % 12 + 1) (by omega)]
      exact make_days _ _ c k (by omega) (by omega) (by omega)
    · rw [if_neg h,tmod_p (by omega) h,wrap_id (x:=b % 12 + 1) (by omega)]
      exact make_days _ _ c k (by omega) (by omega) (by omega)
  by_cases h:Int.tmod a n < 0
  · rw [if_pos h,tmod_n hn (by omega) h]
    exact hj
  · rw [if_neg h,tmod_p hn h]
    exact hj
theorem made_right (a b c n:Int) (hn:0 < n) (hn2:n≤9999):Right (made a b c n).1 (made a b c n).2.1 (made a b c n).2.2∧(made a b c n).1≤n:=by
  have h1:=Int.emod_nonneg a (show n≠0 by omega)
  have h2:=Int.emod_lt_of_pos a hn
  have h3:=Int.emod_nonneg b (show (12:Int)≠0 by omega)
  have h4:=Int.emod_lt_of_pos b (show (0:Int) < 12 by omega)
  have h5:=days_in (y:=a % n + 1) (m:=b % 12 + 1) (by omega) (by omega)
  have h6:=dm_bd (a % n + 1) (b % 12 + 1)
  unfold made Right
  simp only
  generalize days (a % n + 1) (b % 12 + 1)=t at *
  have h7:=Int.emod_nonneg c (show t≠0 by omega)
  have h8:=Int.emod_lt_of_pos c (show 0 < t by omega)
  omega
def aheadOf (y:Int):Int:=365 * (y - 1) + (y - 1) / 4 - (y - 1) / 100 + (y - 1) / 400
theorem ahead_eq (y:Int) (h:1≤y∧y≤10000):date_ahead.f y=some (aheadOf y):=by
  unfold date_ahead.f aheadOf
  have e0:wrap64 (y - 1)=y - 1:=wrap_id (by omega)
  rw [e0,tdiv_pos_ _ (by omega),tdiv_pos_ _ (by omega),tdiv_pos_ _ (by omega)]
  have hz:0≤y - 1∧y - 1≤9999:=by omega
  clear e0
  generalize y - 1=z at *
  rw [wrap_id (x:=365 * z) (by omega),wrap_id (x:=z / 4) (by omega),wrap_id (x:=z / 100) (by omega),wrap_id (x:=z / 400) (by omega),wrap_id (x:=365 * z + z / 4) (by omega),wrap_id (x:=365 * z + z / 4 - z / 100) (by omega),wrap_id (by omega)]
theorem ahead_bd (y:Int) (h:1≤y∧y≤10000):0≤aheadOf y∧aheadOf y≤3652059:=by unfold aheadOf;omega
def mdays (y:Int):Nat→Int
  | 0=>0
  | t + 1=>mdays y t + days y ((t + 1:Nat):Int)
theorem mdays_bd (y:Int) : ∀ t:Nat,0≤mdays y t∧mdays y t≤31 * t
  | 0=>by simp [mdays]
  | t + 1=>by
    have:=mdays_bd y t
    have:=days_bd y ((t + 1:Nat):Int)
    unfold mdays
    omega
def num (y m d:Int):Int:=aheadOf y + mdays y (m - 1).toNat + d
theorem number_l0 (y d:Int) (M:Nat) (hM:M≤11) (hd:0≤d∧d≤31) (b:Int) (hb:0≤b∧b≤3652059) (r:Nat) : ∀ (t:Nat),t + r=M→∀ k,r + 1 < k →
    date_Number.l0 k (b + mdays y t) ((t + 1:Nat):Int) y ((M + 1:Nat):Int) d=some (b + mdays y M + d,0):=by
  induction r with
  | zero =>
    intro t h k hk
    obtain ⟨k,rfl⟩ : ∃ q,k=q + 1:=⟨k - 1,by omega⟩
    have ht:t=M:=by omega
    subst ht
    have:=mdays_bd y t
    simp only [date_Number.l0]
    rw [if_neg (by omega),wrap_id (by omega)]
  | succ r ih =>
    intro t h k hk
    obtain ⟨k,rfl⟩ : ∃ q,k=q + 1:=⟨k - 1,by omega⟩
    have h1:=mdays_bd y t
    have h2:=days_bd y ((t + 1:Nat):Int)
    have h3:b + mdays y t + days y ((t + 1:Nat):Int)=b + mdays y (t + 1):=by rw [mdays,Int.add_assoc]
    simp only [date_Number.l0]
    rw [if_pos (by omega),date_days y _ k (by omega),Option.bind_some,wrap_id (by omega),wrap_id (x:=((t + 1:Nat):Int) + 1) (by omega),h3]
    exact ih (t + 1) (by omega) k (by omega)
theorem number_eq (y m d:Int) (k:Nat) (hk:14 < k):date_Number.f k y m d=some (if Right y m d then (num y m d,0) else (0,11)):=by
  unfold date_Number.f
  rw [date_check y m d k (by omega),Option.bind_some]
  by_cases h:Right y m d
  · obtain ⟨hy,hm,hd⟩:=h.in_
    rw [if_pos h,if_pos rfl,if_pos h,ahead_eq y (by omega),Option.bind_some]
    obtain ⟨M,hM⟩ : ∃ M:Nat,m=((M + 1:Nat):Int):=⟨(m - 1).toNat,by omega⟩
    have:=number_l0 y d M (by omega) (by omega) (aheadOf y) (ahead_bd y (by omega)) M 0 (by omega) k (by omega)
    rw [mdays,Int.add_zero,← hM] at this
    unfold num
    rw [show (m - 1).toNat=M by omega]
    exact this
  · rw [if_neg h,if_neg (by decide),if_neg h]
theorem num_bd {y m d:Int} (h:Right y m d):1≤num y m d∧num y m d≤4000000:=by
  obtain ⟨hy,hm,hd⟩:=h.in_
  have h1:=ahead_bd y (by omega)
  have h2:=mdays_bd y (m - 1).toNat
  unfold num
  omega
theorem between_eq (y m d y2 m2 d2:Int) (k:Nat) (hk:14 < k):month_Between.f k y m d y2 m2 d2 =
    some (if Right y m d then (if Right y2 m2 d2 then (num y2 m2 d2 - num y m d,0) else (0,11)) else (0,11)):=by
  unfold month_Between.f
  rw [number_eq y m d k hk,Option.bind_some]
  by_cases h:Right y m d
  · rw [if_pos h,if_pos h]
    simp only [if_true]
    rw [number_eq y2 m2 d2 k hk,Option.bind_some]
    by_cases h2:Right y2 m2 d2
    · have b1:=num_bd h
      have b2:=num_bd h2
      rw [if_pos h2,if_pos h2]
      simp only [if_true]
      rw [wrap_id (by omega)]
    · rw [if_neg h2,if_neg h2]
      simp only
      rw [if_neg (by decide)]
  · rw [if_neg h,if_neg h]
    simp only
    rw [if_neg (by decide)]
theorem ahead_step (y:Int) (h:1≤y):aheadOf (y + 1)=aheadOf y + (if leap y=true then 366 else 365):=by
  unfold aheadOf leap
  by_cases a:y % 4=0
  · by_cases b:y % 100=0
    · by_cases c:y % 400=0
      · simp only [a,b,c]
        simp
        omega
      · simp only [a,b,c]
        simp
        omega
    · have c : ¬ y % 400=0:=by omega
      simp only [a,b,c]
      simp
      omega
  · have b : ¬ y % 100=0:=by omega
    have c : ¬ y % 400=0:=by omega
    simp only [a,b,c]
    simp
    omega
theorem year_days {y:Int} (h:1≤y∧y≤9999):mdays y 12=(if leap y=true then 366 else 365):=by
  simp only [mdays]
  simp only [days_in h (show 1≤((1:Nat):Int)∧((1:Nat):Int)≤12 by omega),days_in h (show 1≤((2:Nat):Int)∧((2:Nat):Int)≤12 by omega),days_in h (show 1≤((3:Nat):Int)∧((3:Nat):Int)≤12 by omega),days_in h (show 1≤((4:Nat):Int)∧((4:Nat):Int)≤12 by omega),days_in h (show 1≤((5:Nat):Int)∧((5:Nat):Int)≤12 by omega),days_in h (show 1≤((6:Nat):Int)∧((6:Nat):Int)≤12 by omega),days_in h (show 1≤((7:Nat):Int)∧((7:Nat):Int)≤12 by omega),days_in h (show 1≤((8:Nat):Int)∧((8:Nat):Int)≤12 by omega),days_in h (show 1≤((9:Nat):Int)∧((9:Nat):Int)≤12 by omega),days_in h (show 1≤((10:Nat):Int)∧((10:Nat):Int)≤12 by omega),days_in h (show 1≤((11:Nat):Int)∧((11:Nat):Int)≤12 by omega),days_in h (show 1≤((12:Nat):Int)∧((12:Nat):Int)≤12 by omega)]
  cases e:leap y <;> simp [dm,e]
theorem ahead_next {y:Int} (h:1≤y∧y≤9999):aheadOf (y + 1)=aheadOf y + mdays y 12:=by
  rw [ahead_step y h.1,year_days h]
theorem mdays_le (y:Int) (t:Nat) : ∀ s:Nat,mdays y t≤mdays y (t + s)
  | 0=>by simp
  | s + 1=>by
    have h1:=mdays_le y t s
    have h2:=days_bd y ((t + s + 1:Nat):Int)
    rw [show t + (s + 1)=(t + s) + 1 by omega,mdays]
    omega
theorem mdays_mono (y:Int) {t s:Nat} (h:t≤s):mdays y t≤mdays y s:=by
  have:=mdays_le y t (s - t)
  rwa [show t + (s - t)=s by omega] at this
theorem ahead_le (y:Int) (hy:1≤y) : ∀ s:Nat,aheadOf y + 365 * s≤aheadOf (y + s)
  | 0=>by simp
  | s + 1=>by
    have h1:=ahead_le y hy s
    have h2:=ahead_step (y + s) (by omega)
    rw [show y + ((s + 1:Nat):Int)=y + s + 1 by omega,h2]
    split <;> omega
theorem ahead_mono {y z:Int} (hy:1≤y) (h:y≤z):aheadOf y≤aheadOf z:=by
  have:=ahead_le y hy (z - y).toNat
  rw [show y + (((z - y).toNat:Nat):Int)=z by omega] at this
  omega
theorem num_in {y m d:Int} (h:Right y m d):aheadOf y < num y m d∧num y m d≤aheadOf (y + 1)∧num y m d≤aheadOf y + mdays y m.toNat:=by
  obtain ⟨hy,hm,hd⟩:=h.in_
  have h1:=(mdays_bd y (m - 1).toNat).1
  have h2:mdays y m.toNat=mdays y (m - 1).toNat + days y m:=by
    rw [show m.toNat=(m - 1).toNat + 1 by omega,mdays,show (((m - 1).toNat + 1:Nat):Int)=m by omega]
  have h3:=mdays_mono y (show m.toNat≤12 by omega)
  have h4:=ahead_next hy
  have h5:=h.2
  unfold num
  omega
theorem num_top {y m d:Int} (h:Right y m d):1≤num y m d∧num y m d≤3652059:=by
  obtain ⟨hy,hm,hd⟩:=h.in_
  have h1:=num_in h
  have h2:=ahead_bd y (by omega)
  have h3:=ahead_bd (y + 1) (by omega)
  omega
theorem num_year {y m d y2 m2 d2:Int} (h:Right y m d) (h2:Right y2 m2 d2) (hl:y < y2):num y m d < num y2 m2 d2:=by
  obtain ⟨hy,hm,hd⟩:=h.in_
  have a:=num_in h
  have b:=num_in h2
  have c:=ahead_mono (y:=y + 1) (z:=y2) (by omega) (by omega)
  omega
theorem num_month {y m d m2 d2:Int} (h:Right y m d) (h2:Right y m2 d2) (hl:m < m2):num y m d < num y m2 d2:=by
  obtain ⟨hy,hm,hd⟩:=h.in_
  obtain ⟨hy2,hm2,hd2⟩:=h2.in_
  have a:=num_in h
  have c:=mdays_mono y (show m.toNat≤(m2 - 1).toNat by omega)
  have e:num y m2 d2=aheadOf y + mdays y (m2 - 1).toNat + d2:=rfl
  omega
theorem num_day {y m d d2:Int} (hl:d < d2):num y m d < num y m d2:=by unfold num;omega
theorem of_l2 {y:Int} (hy:1≤y∧y≤9999) (r:Nat) : ∀ (t:Nat) (n:Int),t + r=12→1≤n→n + mdays y t≤mdays y 12 →
    ∃ m d,Right y m d∧mdays y (m - 1).toNat + d=mdays y t + n∧∀ x k,r + 2 < k→date_Of.l2 k n y ((t + 1:Nat):Int) x=some (y,m,d,0):=by
  induction r with
  | zero =>
    intro t n h h1 h2
    have:t=12:=by omega
    subst this
    omega
  | succ r ih =>
    intro t n h h1 h2
    have hm:mdays y (t + 1)=mdays y t + days y ((t + 1:Nat):Int):=rfl
    have hd:=days_in hy (m:=((t + 1:Nat):Int)) (by omega)
    have hb:=dm_bd y ((t + 1:Nat):Int)
    have hw:=days_bd y ((t + 1:Nat):Int)
    by_cases hn:n > days y ((t + 1:Nat):Int)
    · obtain ⟨m,d,e1,e2,e3⟩:=ih (t + 1) (n - days y ((t + 1:Nat):Int)) (by omega) (by omega) (by omega)
      refine ⟨m,d,e1,by omega,fun x k hk=>?_⟩
      obtain ⟨k,rfl⟩ : ∃ q,k=q + 1:=⟨k - 1,by omega⟩
      have h3:=mdays_bd y 12
      have h4:=mdays_bd y t
      simp only [date_Of.l2]
      rw [date_days y _ k (by omega),Option.bind_some,if_pos hn,Option.bind_some,wrap_id (by omega),wrap_id (by omega)]
      exact e3 x k (by omega)
    · refine ⟨((t + 1:Nat):Int),n,⟨h1,by omega⟩,?_,fun x k hk=>?_⟩
      · rw [show (((t + 1:Nat):Int) - 1).toNat=t by omega]
      · obtain ⟨k,rfl⟩ : ∃ q,k=q + 1:=⟨k - 1,by omega⟩
        simp only [date_Of.l2]
        rw [date_days y _ k (by omega),Option.bind_some,if_neg hn]
theorem of_j3 {y n:Int} (hy:1≤y∧y≤9999) (h1:aheadOf y < n) (h2:n≤aheadOf (y + 1)) :
    ∃ m d,Right y m d∧num y m d=n∧∀ x k,20 < k→date_Of.j3 k n y 1 x=some (y,m,d,0):=by
  have hs:=ahead_next hy
  obtain ⟨m,d,e1,e2,e3⟩:=of_l2 hy 12 0 (n - aheadOf y) (by omega) (by omega) (by rw [mdays];omega)
  refine ⟨m,d,e1,?_,fun x k hk=>?_⟩
  · rw [mdays] at e2
    unfold num
    omega
  · obtain ⟨k,rfl⟩ : ∃ q,k=q + 1:=⟨k - 1,by omega⟩
    have hb:=ahead_bd y (by omega)
    have hc:=ahead_bd (y + 1) (by omega)
    simp only [date_Of.j3]
    rw [ahead_eq y (by omega),Option.bind_some,wrap_id (by omega)]
    exact e3 x k (by omega)
theorem of_l1 {n:Int} (hn:1≤n∧n≤3652059) (r:Nat) : ∀ y:Int,1≤y→y + r=9999→aheadOf y < n →
    ∃ z m d,Right z m d∧num z m d=n∧∀ x k,r + 30 < k→date_Of.l1 k n y 1 x=some (z,m,d,0):=by
  induction r with
  | zero =>
    intro y h1 h2 h3
    have:y=9999:=by omega
    subst this
    obtain ⟨m,d,e1,e2,e3⟩:=of_j3 (y:=9999) (n:=n) (by omega) h3 (by rw [show aheadOf (9999 + 1)=3652059 by decide];omega)
    refine ⟨9999,m,d,e1,e2,fun x k hk=>?_⟩
    obtain ⟨k,rfl⟩ : ∃ q,k=q + 1:=⟨k - 1,by omega⟩
    simp only [date_Of.l1]
    rw [if_neg (by omega)]
    exact e3 x k (by omega)
  | succ r ih =>
    intro y h1 h2 h3
    by_cases h:aheadOf (y + 1) < n
    · obtain ⟨z,m,d,e1,e2,e3⟩:=ih (y + 1) (by omega) (by omega) h
      refine ⟨z,m,d,e1,e2,fun x k hk=>?_⟩
      obtain ⟨k,rfl⟩ : ∃ q,k=q + 1:=⟨k - 1,by omega⟩
      simp only [date_Of.l1]
      rw [if_pos (by omega),wrap_id (x:=y + 1) (by omega),ahead_eq (y + 1) (by omega),Option.bind_some,if_pos h]
      exact e3 x k (by omega)
    · obtain ⟨m,d,e1,e2,e3⟩:=of_j3 (y:=y) (n:=n) (by omega) h3 (by omega)
      refine ⟨y,m,d,e1,e2,fun x k hk=>?_⟩
      obtain ⟨k,rfl⟩ : ∃ q,k=q + 1:=⟨k - 1,by omega⟩
      simp only [date_Of.l1]
      rw [if_pos (by omega),wrap_id (x:=y + 1) (by omega),ahead_eq (y + 1) (by omega),Option.bind_some,if_neg h]
      exact e3 x k (by omega)
theorem of_l0 {n:Int} (hn:1≤n∧n≤3652059) (r:Nat) : ∀ y:Int,y=r + 1→y≤9999 →
    ∃ z m d,Right z m d∧num z m d=n∧∀ x k,r + 10100 < k→date_Of.l0 k n y 1 x=some (z,m,d,0):=by
  induction r with
  | zero =>
    intro y h1 h2
    have:y=1:=by omega
    subst this
    obtain ⟨z,m,d,e1,e2,e3⟩:=of_l1 hn 9998 1 (by omega) (by omega) (by rw [show aheadOf 1=0 by decide];omega)
    refine ⟨z,m,d,e1,e2,fun x k hk=>?_⟩
    obtain ⟨k,rfl⟩ : ∃ q,k=q + 1:=⟨k - 1,by omega⟩
    simp only [date_Of.l0]
    rw [ahead_eq 1 (by omega),Option.bind_some,show aheadOf 1=0 by decide,if_neg (by omega)]
    exact e3 x k (by omega)
  | succ r ih =>
    intro y h1 h2
    by_cases h:aheadOf y ≥ n
    · obtain ⟨z,m,d,e1,e2,e3⟩:=ih (y - 1) (by omega) (by omega)
      refine ⟨z,m,d,e1,e2,fun x k hk=>?_⟩
      obtain ⟨k,rfl⟩ : ∃ q,k=q + 1:=⟨k - 1,by omega⟩
      simp only [date_Of.l0]
      rw [ahead_eq y (by omega),Option.bind_some,if_pos h,wrap_id (by omega)]
      exact e3 x k (by omega)
    · obtain ⟨z,m,d,e1,e2,e3⟩:=of_l1 hn (9999 - y).toNat y (by omega) (by omega) (by omega)
      refine ⟨z,m,d,e1,e2,fun x k hk=>?_⟩
      obtain ⟨k,rfl⟩ : ∃ q,k=q + 1:=⟨k - 1,by omega⟩
      simp only [date_Of.l0]
      rw [ahead_eq y (by omega),Option.bind_some,if_neg h]
      exact e3 x k (by omega)
theorem of_eq {n:Int} (hn:1≤n∧n≤3652059) : ∃ y m d,Right y m d∧num y m d=n∧∀ k,20200 < k→date_Of.f k n=some (y,m,d,0):=by
  have hq:0≤n * 400 / 146097∧n * 400 / 146097≤10000:=by omega
  obtain ⟨z,m,d,e1,e2,e3⟩:=of_l0 hn (min (n * 400 / 146097 + 1) 9999 - 1).toNat (min (n * 400 / 146097 + 1) 9999) (by omega) (by omega)
  refine ⟨z,m,d,e1,e2,fun k hk=>?_⟩
  obtain ⟨k,rfl⟩ : ∃ q,k=q + 1:=⟨k - 1,by omega⟩
  unfold date_Of.f
  rw [if_neg (by omega),decide_eq_false (by omega)]
  simp only [date_Of.j0]
  rw [if_neg (by decide),wrap_id (x:=n * 400) (by omega),tdiv_pos_ _ (by omega),wrap_id (x:=n * 400 / 146097) (by omega),wrap_id (by omega),mn_eq]
  exact e3 0 k (by omega)
theorem of_none {n:Int} (hn:n < 1∨3652059 < n) (k:Nat) (hk:0 < k):date_Of.f k n=some (0,0,0,11):=by
  obtain ⟨k,rfl⟩ : ∃ q,k=q + 1:=⟨k - 1,by omega⟩
  unfold date_Of.f
  by_cases h:n < 1
  · rw [if_pos h]
    simp only [date_Of.j0,if_true]
  · rw [if_neg h,decide_eq_true (by omega)]
    simp only [date_Of.j0,if_true]
theorem further {y m d a:Int} (h:Right y m d) (ha:1≤num y m d + a∧num y m d + a≤3652059) :
    ∃ y2 m2 d2,Right y2 m2 d2∧num y2 m2 d2=num y m d + a∧∀ k,20200 < k→month_AddDays.f k y m d a=some (y2,m2,d2,0):=by
  obtain ⟨z,q,e,h1,h2,h3⟩:=of_eq ha
  refine ⟨z,q,e,h1,h2,fun k hk=>?_⟩
  have b:=num_top h
  unfold month_AddDays.f
  rw [number_eq y m d k (by omega),Option.bind_some,if_pos h,if_pos rfl,if_neg (by omega),if_neg (by omega),wrap_id (by omega),h3 k hk,Option.bind_some]
theorem further_none {y m d a:Int} (h:Right y m d) (ha:num y m d + a < 1∨3652059 < num y m d + a) (k:Nat) (hk:20200 < k) :
    month_AddDays.f k y m d a=some (0,0,0,11):=by
  have b:=num_top h
  unfold month_AddDays.f
  rw [number_eq y m d k (by omega),Option.bind_some,if_pos h,if_pos rfl]
  by_cases h1:a < -3719628
  · rw [if_pos h1]
  · rw [if_neg h1]
    by_cases h2:a > 3719628
    · rw [if_pos h2]
    · rw [if_neg h2,wrap_id (by omega),of_none ha k (by omega),Option.bind_some]
def sgI (a b:Int):Int:=if a < b then -1 else if a > b then 1 else 0
def or3 (a b c:Int):Int:=if a=0 then (if b=0 then c else b) else a
theorem sg_lt_d {a b:Int} (h:a < b):sgI a b = -1:=if_pos h
theorem sg_gt_d {a b:Int} (h:b < a):sgI a b=1:=by unfold sgI;rw [if_neg (by omega),if_pos h]
theorem sg_eq_d (a:Int):sgI a a=0:=by unfold sgI;rw [if_neg (by omega),if_neg (by omega)]
theorem or3_num {y m d y2 m2 d2:Int} (h:Right y m d) (h2:Right y2 m2 d2):or3 (sgI y y2) (sgI m m2) (sgI d d2)=sgI (num y m d) (num y2 m2 d2):=by
  rcases Int.lt_trichotomy y y2 with a|a|a
  · rw [sg_lt_d a,sg_lt_d (num_year h h2 a)];rfl
  · subst a
    rw [sg_eq_d]
    rcases Int.lt_trichotomy m m2 with a|a|a
    · rw [sg_lt_d a,sg_lt_d (num_month h h2 a)];rfl
    · subst a
      rw [sg_eq_d]
      rcases Int.lt_trichotomy d d2 with a|a|a
      · rw [sg_lt_d a,sg_lt_d (num_day a)];rfl
      · subst a
        rw [sg_eq_d,sg_eq_d];rfl
      · rw [sg_gt_d a,sg_gt_d (num_day a)];rfl
    · rw [sg_gt_d a,sg_gt_d (num_month h2 h a)];rfl
  · rw [sg_gt_d a,sg_gt_d (num_year h2 h a)];rfl
structure SubInv (a b x:List Int) (c:Int) (n i:Nat):Prop where
  w:wfW x
  len:x.length=n
  c0:0≤c∧c≤1
  z : ∀ j,i≤j→x.getD j 0=0
  v:vW x - c * ((W:Nat):Int) ^ i=vW (a.take i) - vW (b.take i)
theorem mask32 (a:Nat) (ha:a < 18446744073709551616):bits .and .u64 (a:Int) 4294967295=((a % 4294967296:Nat):Int):=by
  rw [show (4294967295:Int)=((4294967295:Nat):Int) from rfl,bits_and_u64_nat a 4294967295 ha (by decide)]
  congr 1
  exact Nat.and_two_pow_sub_one_eq_mod a 32
theorem wrapN (a:Nat) (ha:a < 18446744073709551616):IntKind.u64.wrap (a:Int)=(a:Int):=u64_id (by omega)
theorem mul64_eq (x y:Nat) (hx:x < 18446744073709551616) (hy:y < 18446744073709551616):bits_Mul64.f (x:Int) (y:Int)=some (((x * y / 18446744073709551616:Nat):Int),((x * y % 18446744073709551616:Nat):Int)):=by
  unfold bits_Mul64.f
  have d32 : ∀ a:Nat,(a:Int) / 4294967296=((a / 4294967296:Nat):Int):=fun a=>by omega
  generalize hx1:x / 4294967296=x1
  generalize hx0:x % 4294967296=x0
  generalize hy1:y / 4294967296=y1
  generalize hy0:y % 4294967296=y0
  have bx1:x1≤4294967295:=by omega
  have bx0:x0≤4294967295:=by omega
  have by1:y1≤4294967295:=by omega
  have by0:y0≤4294967295:=by omega
  have bd : ∀ {a b:Nat},a≤4294967295→b≤4294967295→a * b≤18446744065119617025:=fun ha hb=>Nat.mul_le_mul ha hb
  have p11:=bd bx1 by1
  have p10:=bd bx1 by0
  have p01:=bd bx0 by1
  have p00:=bd bx0 by0
  have ex:x=x1 * 4294967296 + x0:=by omega
  have ey:y=y1 * 4294967296 + y0:=by omega
  have emul:x * y=x1 * y1 * 18446744073709551616 + (x1 * y0 + x0 * y1) * 4294967296 + x0 * y0:=by
    rw [ex,ey];grind
  simp only [d32,mask32 x hx,mask32 y hy,hx1,hx0,hy1,hy0,← Int.natCast_mul]
  rw [wrapN (x1 * y1) (by omega),wrapN (x1 * y0) (by omega),wrapN (x0 * y0) (by omega),wrapN (x0 * y1) (by omega)]
  simp only [d32,← Int.natCast_add]
  rw [wrapN (x1 * y0 + x0 * y0 / 4294967296) (by omega),mask32 _ (by omega)]
  simp only [d32,← Int.natCast_add]
  rw [wrapN (x1 * y1 + (x1 * y0 + x0 * y0 / 4294967296) / 4294967296) (by omega),wrapN ((x1 * y0 + x0 * y0 / 4294967296) % 4294967296 + x0 * y1) (by omega)]
  simp only [d32,← Int.natCast_add]
  rw [wrapN _ (by omega),u64_wrap,emul]
  congr 2
  · congr 1
    generalize x1 * y1=a at *
    generalize x1 * y0=b at *
    generalize x0 * y1=c at *
    generalize x0 * y0=d at *
    omega
structure RowInv (y l x2:List Int) (x c:Int) (i:Nat):Prop where
  w:wfW x2
  len:x2.length=l.length
  c0:0≤c∧c < 18446744073709551616
  z : ∀ j,i≤j→x2.getD j 0=l.getD j 0
  v:vW x2 + c * ((W:Nat):Int) ^ i=vW l + x * vW (y.take i)
structure MulInv (a b x:List Int) (i:Nat):Prop where
  w:wfW x
  len:x.length=a.length + b.length + 1
  z : ∀ j,i + a.length≤j→x.getD j 0=0
  v:vW x=vW a * vW (b.take i)
def sz (n:Nat):Nat:=if n=0 then 0 else n.log2 + 1
structure MovInv (l out:List Int) (p:Int) (i:Nat):Prop where
  w:wfW out
  len:out.length=l.length + 1
  small:out.getD i 0 < p
  v:vW (out.take (i + 1))=vW (l.take i) * p
structure LessInv (u d x:List Int) (q c b:Nat) (i:Nat):Prop where
  w:wfW x
  len:x.length=u.length
  c0:c < 18446744073709551616
  b0:b≤1
  z : ∀ j,i≤j→x.getD j 0=u.getD j 0
  v:vW x + (q:Int) * vW (d.take i)=vW u + ((c:Int) + (b:Int)) * ((W:Nat):Int) ^ i
structure BackInv (u d x:List Int) (c:Nat) (i:Nat):Prop where
  w:wfW x
  len:x.length=u.length
  c0:c≤1
  z : ∀ j,i≤j→x.getD j 0=u.getD j 0
  v:vW x + (c:Int) * ((W:Nat):Int) ^ i=vW u + vW (d.take i)
end Go.Proofs.YtakidmbnkkhojaaGreatM
end

section
namespace Go.Proofs.YtakidmbnkkhojaaGreatM
open Go.RowKit Go.Proofs.YtakidmbnkkhojaaGreatW.PrintWords Go.Proofs.YtakidmbnkkhojaaGreatW.PrintLast Go.Proofs.YtakidmbnkkhojaaGreatW.PrintMore Go.Proofs.YtakidmbnkkhojaaGreatX Go.Proofs.YtakidmbnkkhojaaGreat.F
set_option linter.unusedVariables false
set_option linter.unusedSimpArgs false
theorem Ev.map {α β:Type} {g:Nat→Option α} {a:α} (f:α→β) (h:Ev g a):Ev (fun n=>(g n).map f) (f a):=by
  obtain ⟨K,hK⟩:=h
  exact ⟨K,fun k hk=>by show (g k).map f=_;rw [hK k hk];rfl⟩
theorem three (A p C:List Int):((A ++ p ++ C).take (A.length + p.length)).drop A.length=p∧(A ++ p ++ C).take A.length=A∧(A ++ p ++ C).drop (A.length + p.length)=C:=by
  have h:(A ++ p ++ C).take (A.length + p.length)=A ++ p:=List.take_left' (by simp)
  refine ⟨?_,?_,?_⟩
  · rw [h]
    exact List.drop_left' rfl
  · rw [List.append_assoc]
    exact List.take_left' rfl
  · exact List.drop_left' (by simp)
section
variable {A p C d : List Int} {i : Nat}
end
end Go.Proofs.YtakidmbnkkhojaaGreatM
end

section
namespace Go.Proofs.YtakidmbnkkhojaaGreatM
open Go.RowKit Go.Proofs.YtakidmbnkkhojaaGreatW.PrintWords Go.Proofs.YtakidmbnkkhojaaGreatW.PrintLast Go.Proofs.YtakidmbnkkhojaaGreatW.PrintMore Go.Proofs.YtakidmbnkkhojaaGreatX Go.Proofs.YtakidmbnkkhojaaGreat.F
set_option linter.unusedVariables false
set_option linter.unusedSimpArgs false
structure ShrInv (y out:List Int) (p i:Nat):Prop where
  w:wfW out
  len:out.length=y.length
  z:out.drop i=y.drop i
  v:(vW (out.take i)).toNat + 18446744073709551616 ^ i * ((vW (y.drop i)).toNat / p)=(vW y).toNat / p
abbrev wfD (l:List Int):Prop:=wf ((10000:Nat):Int) l
abbrev vD (l:List Int):Int:=vl ((10000:Nat):Int) l
structure RAddInv (a b x:List Int) (c:Int) (i:Nat):Prop where
  w:wfD x
  len:x.length=i
  c0:0≤c∧c≤1
  v:vD x + c * ((10000:Nat):Int) ^ i=vD (a.take i) + vD (b.take i)
structure RSubInv (a b x:List Int) (c:Int) (i:Nat):Prop where
  w:wfD x
  len:x.length=i
  c0:0≤c∧c≤1
  v:vD x - c * ((10000:Nat):Int) ^ i=vD (a.take i) - vD (b.take i)
structure RMulInv (a b x:List Int) (i j:Nat) (c:Int):Prop where
  w:wfD x
  len:x.length=a.length + b.length + 1
  c0:0≤c∧c≤9999
  v:vD x + c * ((10000:Nat):Int) ^ (i + j)=vD (a.take i) * vD b + a.getD i 0 * ((10000:Nat):Int) ^ i * vD (b.take j)
end Go.Proofs.YtakidmbnkkhojaaGreatM
end
