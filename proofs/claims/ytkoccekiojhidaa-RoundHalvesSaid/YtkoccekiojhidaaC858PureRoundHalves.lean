import Derived.Test.YtkoccekiojhidaaC858D
import Derived.Test.YtkoccekiojhidaaC858U1
namespace Go.Proofs.Ytkoccekiojhidaa.Pure
open Go.RowKit Go.Proofs.Ytkoccekiojhidaa.F Go.Proofs.YtkoccekiojhidaaW.PrintWords Go.Proofs.YtkoccekiojhidaaW.PrintLast Go.Proofs.YtkoccekiojhidaaM
set_option linter.unusedVariables false
theorem up_scale (m:Int) (q r d g:Nat) (hg:0 < g):rup m q (g * r) (g * d)=rup m q r d:=by
  have e1:(g * d≤2 * (g * r)) ↔ (d≤2 * r):=by rw [Nat.mul_left_comm];exact Nat.mul_le_mul_left_iff hg
  have e2:(g * d < 2 * (g * r)) ↔ (d < 2 * r):=by rw [Nat.mul_left_comm];exact Nat.mul_lt_mul_left hg
  have e3:(g * d=2 * (g * r)) ↔ (d=2 * r):=by rw [Nat.mul_left_comm];exact Nat.mul_right_inj (by omega)
  unfold rup
  simp only [e1,e2,e3]
theorem mag_scale (m:Int) (a d g:Nat) (hg:0 < g):mag m (g * a) (g * d)=mag m a d:=by
  unfold mag
  rw [Nat.mul_div_mul_left _ _ hg,Nat.mul_mod_mul_left,up_scale m _ _ _ g hg]
  have e:(g * (a % d)≠0) ↔ (a % d≠0):=by
    rw [Ne,Nat.mul_eq_zero]
    omega
  simp only [e]
theorem rnd_mk (m:Int) (b:Bool) (a d:Nat) (ha:0 < a) (hd:0 < d):rnd m (mkRat (sgn b a) d)=sgn b (mag m a d):=by
  have hg:0 < Nat.gcd (sgn b a).natAbs d:=Nat.gcd_pos_of_pos_right _ hd
  have h1:=mk_abs (sgn b a) d hd
  have h2:=mk_den (sgn b a) d hd
  have h3:=mk_sign (sgn b a) d hd
  rw [sgn_abs] at h1 h2 hg
  have hs:decide ((mkRat (sgn b a) d).num < 0)=b:=by
    have h4:decide ((mkRat (sgn b a) d).num.sign < 0)=decide ((sgn b a).sign < 0):=congrArg (fun z:Int=>decide (z < 0)) h3
    rw [sign_dec,sign_dec,sgn_neg] at h4
    rw [h4,decide_eq_true (show a≠0 by omega),Bool.and_true]
  unfold rnd
  rw [hs,h1,← h2]
  have e1:Nat.gcd a d * (a / Nat.gcd a d)=a:=Nat.mul_div_cancel' (Nat.gcd_dvd_left a d)
  have e2:Nat.gcd a d * (d / Nat.gcd a d)=d:=Nat.mul_div_cancel' (Nat.gcd_dvd_right a d)
  have:=mag_scale m (a / Nat.gcd a d) (d / Nat.gcd a d) (Nat.gcd a d) hg
  rw [e1,e2] at this
  rw [this]
def lup (i m:Int) (odd:Bool):Bool:=decide (m=1) || (decide (m≠0) && decide (i=2)) || (decide (i=1) && (decide (m=2) || (decide (m=4) && odd)))
theorem mag_lup {i m:Int} (hi:0≤i∧i < 3) (hm:0≤m∧m < 5) (k d a:Nat) (hd:1≤d) (ha:(a:Int)=(k * (4 * d):Nat) + 2 * d + i - 1):mag m a (4 * d)=if lup i m (decide (k % 2=1))=true then k + 1 else k:=by
  obtain ⟨r,hr⟩ : ∃ r:Nat,(r:Int)=2 * d + i - 1:=⟨(2 * d + i - 1).toNat,by omega⟩
  have hrlt:r < 4 * d:=by omega
  have ea:a=k * (4 * d) + r:=by omega
  have eq:a / (4 * d)=k:=by
    rw [ea,Nat.mul_comm k,Nat.mul_add_div (by omega),Nat.div_eq_of_lt hrlt,Nat.add_zero]
  have er:a % (4 * d)=r:=by
    rw [ea,Nat.mul_comm k,Nat.mul_add_mod,Nat.mod_eq_of_lt hrlt]
  have h0:r≠0:=by omega
  have f1:(4 * d≤2 * r) ↔ (1≤i):=by omega
  have f2:(4 * d < 2 * r) ↔ (i=2):=by omega
  have f3:(4 * d=2 * r) ↔ (i=1):=by omega
  have hu:rup m k r (4 * d)=lup i m (decide (k % 2=1)):=by
    unfold rup lup
    simp only [f1,f2,f3]
    clear ha hr ea eq er f1 f2 f3 hrlt
    rcases (by omega:i=0∨i=1∨i=2) with e|e|e <;> subst e <;> rcases (by omega:m=0∨m=1∨m=2∨m=3∨m=4) with e|e|e|e|e <;> subst e <;> simp
  unfold mag
  rw [eq,er,hu]
  by_cases c:lup i m (decide (k % 2=1))=true
  · rw [if_pos ⟨h0,c⟩,if_pos c]
  · rw [if_neg (fun h=>c h.2),if_neg c]
variable {b : Bool} {k d : Nat} {L : List S26} {i : Int}
theorem halves_j4 {q:Rat} {n:Nat} {m:Int} (hq:Sz n q) (hn:n≤1000) (hm:0≤m∧m < 5) {t:Nat} (ht:rnd m q=sgn b t) (lt:(lim t).length≤100) {o:Bool} {l1 l2:List Int}
    (h:Ev (fun z=>chattellaw06_RoundHalves.l1 z b o i L 3 i (wrap64 (m + 1)) (lim k) l1 l2 (lim q.num.natAbs) (decide (q.num < 0)) (lim (q.den - 1))) true) :
    Ev (fun z=>chattellaw06_RoundHalves.j4 z b o i m L 3 i m (lim k) l1 l2 (lim q.num.natAbs) (decide (q.num < 0)) (lim (q.den - 1)) (lim t)) true:=by
  refine Ev.unroll ?_
  simp only [chattellaw06_RoundHalves.j4]
  refine Ev.bind (rWhole hq (by omega) hm) (Ev.pos rfl (Ev.bindc (wOf t b rfl) ?_))
  have hc:=wCmp (rnd m q) (sgn b t) (by rw [ht,sgn_abs];omega) (by rw [sgn_abs];omega)
  rw [ht,Int.sub_self] at hc
  rw [ht]
  exact Ev.bind hc (Ev.pos rfl h)
theorem halves_j3 {q:Rat} {n:Nat} {m:Int} (hq:Sz n q) (hn:n≤1000) (hm:0≤m∧m < 5) {u:Bool} (ht:rnd m q=sgn b (if u=true then k + 1 else k)) (lt:(lim k).length≤90) {o:Bool} {l2:List Int}
    (h:Ev (fun z=>chattellaw06_RoundHalves.l1 z b o i L 3 i (wrap64 (m + 1)) (lim k) (lim 1) l2 (lim q.num.natAbs) (decide (q.num < 0)) (lim (q.den - 1))) true) :
    Ev (fun z=>chattellaw06_RoundHalves.j3 z b o i m u L 3 i m (lim k) (lim 1) l2 (lim q.num.natAbs) (decide (q.num < 0)) (lim (q.den - 1))) true:=by
  have l1:=len_one
  have la:=len_add k 1
  refine Ev.unroll ?_
  simp only [chattellaw06_RoundHalves.j3]
  cases u with
  | true=>exact Ev.pos (by simp) (Ev.bind (add_lim k 1 (by omega) (by omega)) (halves_j4 hq hn hm (by simpa using ht) (by omega) h))
  | false=>exact Ev.neg (by simp) (halves_j4 hq hn hm (by simpa using ht) (by omega) h)
theorem halves_l1 {q:Rat} {n:Nat} (hi:0≤i∧i < 3) (hq:Sz n q) (hn:n≤1000) {o:Bool} (lt:(lim k).length≤90) {l2:List Int}
    (ht : ∀ m:Int,0≤m→m < 5→rnd m q=sgn b (if lup i m o=true then k + 1 else k))
    (h:Ev (fun z=>chattellaw06_RoundHalves.l0 z b o L 3 (wrap64 (i + 1)) (lim k) (lim 1) l2) true) : ∀ t m:Nat,m + t=5 →
    Ev (fun z=>chattellaw06_RoundHalves.l1 z b o i L 3 i (m:Int) (lim k) (lim 1) l2 (lim q.num.natAbs) (decide (q.num < 0)) (lim (q.den - 1))) true:=by
  intro t
  induction t with
  | zero =>
    intro m hm
    refine Ev.unroll ?_
    simp only [chattellaw06_RoundHalves.l1]
    exact Ev.neg (by omega) h
  | succ t ih =>
    intro m hm
    have hm':0≤(m:Int)∧(m:Int) < 5:=by omega
    have hc:=ih (m + 1) (by omega)
    rw [show ((m + 1:Nat):Int)=wrap64 ((m:Int) + 1) by unfold wrap64;omega] at hc
    have hj:=halves_j3 (u:=lup i m o) hq hn hm' (ht m hm'.1 hm'.2) lt hc
    refine Ev.unroll ?_
    simp only [chattellaw06_RoundHalves.l1]
    refine Ev.pos hm'.2 ?_
    unfold lup at hj
    generalize (m:Int)=M at *
    rcases (by omega:i=0∨i=1∨i=2) with e|e|e <;> subst e <;> rcases (by omega:M=0∨M=1∨M=2∨M=3∨M=4) with e|e|e|e|e <;> subst e <;> simp at hj <;>
      (repeat first|refine Ev.pos (by decide) ?_|refine Ev.neg (by decide) ?_) <;> exact hj
theorem two_lim:Ev (fun k=>nat_Of.f k ([2]:List Int)) (lim 2) :=
  of_lim (a:=2) (vW_one 2) (fun x hx=>by rw [List.mem_singleton.1 hx];exact ⟨by decide,by show (2:Int) < 18446744073709551616;decide⟩) (Nat.le_refl 1) (by decide)
def tops (half:Nat):List S26:=[⟨lim (half - 1)⟩,⟨lim half⟩,⟨lim (half + 1)⟩]
theorem tops_at (half:Nat) (h:1≤half) : ∀ i:Nat,i < 3→(rd_T26 (tops half) (i:Int)).f0=lim (half + i - 1):=by
  intro i hi
  rcases (by omega:i=0∨i=1∨i=2) with e|e|e <;> subst e
  · rfl
  · show lim half=_;congr 1
  · show lim (half + 1)=_;congr 1
theorem halves_l0 {k d:Nat} (hk:(lim k).length≤3) (hd:1≤d) (ld:(lim d).length≤4) (b:Bool) : ∀ t i:Nat,i + t=3 →
    Ev (fun z=>chattellaw06_RoundHalves.l0 z b (decide (k % 2=1)) (tops (k * (4 * d) + 2 * d)) 3 (i:Int) (lim k) (lim 1) (lim (4 * d))) true:=by
  have l1:=len_one
  have m4:=len_mul 4 d
  have l4:(lim 4).length≤1:=lim_len_le (by decide)
  have mk:=len_mul k (4 * d)
  have m2:=len_mul 2 d
  have l2:(lim 2).length≤1:=lim_len_le (by decide)
  have mh:=len_add (k * (4 * d)) (2 * d)
  have mh1:=len_add (k * (4 * d) + 2 * d) 1
  intro t
  induction t with
  | zero =>
    intro i hi
    refine Ev.unroll ?_
    simp only [chattellaw06_RoundHalves.l0]
    exact Ev.neg (by omega) (Ev.bind wakes6 (Ev.const rfl))
  | succ t ih =>
    intro i hi
    have hi3:i < 3:=by omega
    have hc:=ih (i + 1) (by omega)
    rw [show ((i + 1:Nat):Int)=wrap64 ((i:Int) + 1) by unfold wrap64;omega] at hc
    have lt:(lim (k * (4 * d) + 2 * d + i - 1)).length≤100:=by
      have:=len_mono (show k * (4 * d) + 2 * d + i - 1≤k * (4 * d) + 2 * d + 1 by omega)
      omega
    have hD:=wOf (4 * d) false (z:=((4 * d:Nat):Int)) (by unfold sgn;rw [if_neg (by decide)])
    rw [nat_abs,nat_neg] at hD
    have hf:=fOfN (sgn b (k * (4 * d) + 2 * d + i - 1)) (4 * d) (by omega) (by rw [sgn_abs];omega) (by omega)
    have hsz:Sz 100 (mkRat (sgn b (k * (4 * d) + 2 * d + i - 1)) (4 * d)):=mk_size (by omega) (by rw [sgn_abs];omega) (by omega)
    refine Ev.unroll ?_
    simp only [chattellaw06_RoundHalves.l0]
    refine Ev.pos (by omega) (Ev.pos (by omega) (Ev.pos (by show (i:Int) < 3;omega) ?_))
    rw [tops_at _ (by omega) i hi3]
    refine Ev.bindc (wOf _ b rfl) (Ev.bindc hD (Ev.bind hf (Ev.pos rfl ?_)))
    refine halves_l1 (i:=(i:Int)) (by omega) hsz (by decide) (by omega) (fun m m0 m5=>?_) hc 5 0 rfl
    rw [rnd_mk m b _ (4 * d) (by omega) (by omega),mag_lup (i:=(i:Int)) (by omega) ⟨m0,m5⟩ k d _ hd (by omega)]
theorem RoundHalves:chattellaw06_RoundHalves.Pure:=by
  intro l0 l1 b _ _ w0 _ _ w1
  obtain ⟨k,vk,lk,fk,nk⟩:=cut_num w0 3
  obtain ⟨c,vc,lc,fc,nc⟩:=cut_num w1 3
  have c0:=cut_le_ l0 3
  have c1:=cut_le_ l1 3
  have k0:l0.take ((mn (l0.length:Int) 3):Int).toNat=l0.take 3:=cutn_ l0 3
  have k1:l1.take ((mn (l1.length:Int) 3):Int).toNat=l1.take 3:=cutn_ l1 3
  have ln1:=len_one
  have l2:(lim 2).length≤1:=lim_len_le (by decide)
  have la:=len_add c 1
  have m1:=len_mul (c + 1) 2
  have m2:=len_mul ((c + 1) * 2) 2
  have m3:=len_mul k ((c + 1) * 2 * 2)
  have m4:=len_add (k * ((c + 1) * 2 * 2)) ((c + 1) * 2)
  have hsub:=sub_ev (k * ((c + 1) * 2 * 2) + (c + 1) * 2) 1 (by omega) (by omega)
  rw [if_neg (by omega)] at hsub
  have hl:=halves_l0 lk (show 1≤c + 1 by omega) (by omega) b 3 0 rfl
  rw [show 4 * (c + 1)=(c + 1) * 2 * 2 by omega,show 2 * (c + 1)=(c + 1) * 2 by omega] at hl
  have j0:Ev (fun z=>chattellaw06_RoundHalves.j0 z b (decide (k % 2=1)) (lim k) (lim 1) (lim ((c + 1) * 2 * 2)) (lim (k * ((c + 1) * 2 * 2) + (c + 1) * 2)) (lim (k * ((c + 1) * 2 * 2) + (c + 1) * 2 - 1))) true:=by
    refine Ev.unroll ?_
    simp only [chattellaw06_RoundHalves.j0]
    refine Ev.bind (add_lim _ 1 (by omega) (by omega)) (Ev.bindc (x:=tops (k * ((c + 1) * 2 * 2) + (c + 1) * 2)) rfl ?_)
    exact hl
  refine Ev.rounds ?_
  unfold chattellaw06_RoundHalves.f
  refine Ev.pos c0.1 (Ev.pos c0.2 ?_)
  rw [k0]
  refine Ev.bind (of_lim vk fk nk (by decide)) (Ev.pos c1.1 (Ev.pos c1.2 ?_))
  rw [k1]
  refine Ev.bind (of_lim vc fc nc (by decide)) (Ev.bind one_lim (Ev.bind (add_lim c 1 (by omega) (by omega)) ?_))
  refine Ev.bind one_lim (Ev.bind two_lim (Ev.bind (mul_lim (c + 1) 2 (by omega) (by omega)) (Ev.bind (mul_lim ((c + 1) * 2) 2 (by omega) (by omega)) ?_)))
  refine Ev.bind (mul_lim k _ (by omega) (by omega)) (Ev.bind (mul_lim (c + 1) 2 (by omega) (by omega)) (Ev.bind (add_lim _ _ (by omega) (by omega)) (Ev.bind hsub ?_)))
  refine Ev.bindc (limbs_eq (lim k) (by omega)) ?_
  by_cases hk:k=0
  · subst hk
    exact Ev.neg (by rw [lim_zero];decide) j0
  · have hp:=lim_pos hk
    refine Ev.pos (by omega) (Ev.bindc (limbs_eq (lim k) (by omega)) (Ev.pos (by omega) ?_))
    rw [lim_odd k hk]
    exact j0
end Go.Proofs.Ytkoccekiojhidaa.Pure
