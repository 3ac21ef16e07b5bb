import Derived.Test.YtkoccekiojhidaaC858JM7
namespace Go.Proofs.YtkoccekiojhidaaM
open Go.RowKit Go.Proofs.YtkoccekiojhidaaW.PrintWords Go.Proofs.YtkoccekiojhidaaW.PrintLast Go.Proofs.YtkoccekiojhidaaW.PrintMore Go.Proofs.YtkoccekiojhidaaX Go.Proofs.Ytkoccekiojhidaa.F
set_option linter.unusedVariables false
set_option linter.unusedSimpArgs false
theorem mag_two (m:Int) (a d:Nat) (hd:0 < d):(mag m a d * d + a % d=a∧(a % d=0∨rup m (a / d) (a % d) d=false))∨(mag m a d * d + a % d=a + d∧0 < a % d∧rup m (a / d) (a % d) d=true):=by
  have h:=Nat.div_add_mod a d
  unfold mag
  by_cases h0:a % d≠0∧rup m (a / d) (a % d) d=true
  · rw [if_pos h0]
    right
    refine ⟨?_,Nat.pos_of_ne_zero h0.1,h0.2⟩
    rw [Nat.succ_mul,Nat.mul_comm];omega
  · rw [if_neg h0]
    left
    refine ⟨by rw [Nat.mul_comm];exact h,?_⟩
    by_cases h1:a % d=0
    · exact .inl h1
    · right
      cases hu:rup m (a / d) (a % d) d with
      | true=>exact absurd ⟨h1,hu⟩ h0
      | false=>rfl
theorem mag_near (m:Int) (a d:Nat) (hd:0 < d):((mag m a d * d:Nat):Int) - (a:Int) < d∧(a:Int) - ((mag m a d * d:Nat):Int) < d:=by
  have hr:=Nat.mod_lt a hd
  rcases mag_two m a d hd with ⟨h,_⟩|⟨h,h1,_⟩ <;> omega
theorem mag_half {m:Int} (hm:2≤m∧m < 5) (a d:Nat) (hd:0 < d):2 * (((mag m a d * d:Nat):Int) - (a:Int))≤d∧2 * ((a:Int) - ((mag m a d * d:Nat):Int))≤d:=by
  have hr:=Nat.mod_lt a hd
  rcases mag_two m a d hd with ⟨h,h1⟩|⟨h,h1,h2⟩
  · have h2:2 * (a % d)≤d:=by
      rcases h1 with h1|h1
      · omega
      · rcases (by omega:m=2∨m=3∨m=4) with e|e|e <;> subst e <;> simp [rup] at h1 <;> omega
    omega
  · have h3:d≤2 * (a % d):=by
      rcases (by omega:m=2∨m=3∨m=4) with e|e|e <;> subst e <;> simp [rup] at h2 <;> omega
    omega
theorem mag_down (a d:Nat) (hd:0 < d):mag 0 a d * d≤a:=by
  rcases mag_two 0 a d hd with ⟨h,_⟩|⟨h,h1,h2⟩
  · omega
  · simp [rup] at h2
theorem mag_up (a d:Nat) (hd:0 < d):a≤mag 1 a d * d:=by
  have hr:=Nat.mod_lt a hd
  rcases mag_two 1 a d hd with ⟨h,h1⟩|⟨h,h1,h2⟩
  · rcases h1 with h1|h1
    · omega
    · simp [rup] at h1
  · omega
theorem mag_one (m:Int) (a:Nat):mag m a 1=a:=by
  unfold mag
  rw [if_neg (fun h=>h.1 (Nat.mod_one a)),Nat.div_one]
theorem mag_zero (m:Int) (d:Nat):mag m 0 d=0:=by
  unfold mag
  rw [if_neg (fun h=>h.1 (Nat.zero_mod d)),Nat.zero_div]
theorem rnd_neg (m:Int) (q:Rat):rnd m (-q) = -rnd m q:=by
  unfold rnd
  rw [show (-q).num = -q.num from rfl,show (-q).den=q.den from rfl,Int.natAbs_neg]
  by_cases h0:q.num=0
  · rw [h0];rw [show ((0:Int)).natAbs=0 from rfl,mag_zero];rfl
  · unfold sgn
    by_cases h:q.num < 0
    · rw [decide_eq_true h,decide_eq_false (by omega),if_pos rfl,if_neg (by decide)];omega
    · rw [decide_eq_false h,decide_eq_true (by omega),if_pos rfl,if_neg (by decide)]
theorem rnd_abs (m:Int) (q:Rat):(rnd m q).natAbs=mag m q.num.natAbs q.den:=sgn_abs _ _
theorem rnd_off (m:Int) (q:Rat):(rnd m q * q.den - q.num).natAbs=(((mag m q.num.natAbs q.den * q.den:Nat):Int) - (q.num.natAbs:Int)).natAbs:=by
  have hz:=sgn_self q.num
  unfold rnd
  have e:q.num=sgn (decide (q.num < 0)) q.num.natAbs:=hz.symm
  generalize mag m q.num.natAbs q.den=t
  generalize q.num.natAbs=a at *
  unfold sgn at *
  by_cases h:q.num < 0
  · rw [decide_eq_true h,if_pos rfl] at e ⊢
    rw [e,Int.neg_mul,← Int.natCast_mul];omega
  · rw [decide_eq_false h,if_neg (by decide)] at e ⊢
    rw [e,← Int.natCast_mul]
theorem rsg_int (z:Int):rsg (z:Rat)=z.sign:=by unfold rsg;rw [Rat.num_intCast]
theorem rsg_scale {p:Rat} {D:Nat} (hD:0 < D) {t:Int} (h:p * ((D:Int):Rat)=(t:Rat)):rsg p=t.sign:=by
  have h1:=congrArg rsg h
  rw [rsg_mul,rsg_int,rsg_int,Int.sign_eq_one_of_pos (by omega),Int.mul_one] at h1
  exact h1
theorem scale_self (q:Rat):q * ((q.den:Int):Rat)=(q.num:Rat):=by
  have h:=Rat.num_divInt_den q
  rw [Rat.divInt_eq_div] at h
  have hd:((q.den:Int):Rat)≠0:=fun e=>by
    have h1:=congrArg Rat.num e
    rw [Rat.num_intCast] at h1
    have:=den_pos q
    have h2:(q.den:Int)=0:=h1
    omega
  generalize ((q.den:Int):Rat)=d at *
  generalize (q.num:Rat)=n at *
  rw [← h]
  grind
def rabs (q:Rat):Rat:=if rsg q < 0 then -q else q
theorem rabs_scale {p:Rat} {D:Nat} (hD:0 < D) {t:Int} (h:p * ((D:Int):Rat)=(t:Rat)):rabs p * ((D:Int):Rat)=((t.natAbs:Int):Rat):=by
  have hs:=rsg_scale hD h
  unfold rabs
  rw [hs]
  by_cases ht:t.sign < 0
  · rw [if_pos ht,Rat.neg_mul,h]
    have:t < 0:=Int.sign_neg_iff.1 ht
    rw [show (t.natAbs:Int) = -t by omega,Rat.intCast_neg]
  · rw [if_neg ht,h]
    have : ¬ t < 0:=fun h=>ht (Int.sign_neg_iff.2 h)
    rw [show (t.natAbs:Int)=t by omega]
theorem sub_scale {p q D a b:Rat} (h:p * D=a) (h':q * D=b):(p - q) * D=a - b:=by rw [← h,← h'];grind
theorem off_scale (m:Int) (x:Rat):((rnd m x:Int) - x:Rat) * ((x.den:Int):Rat)=((rnd m x * x.den - x.num:Int):Rat):=by
  rw [Rat.intCast_sub,Rat.intCast_mul]
  exact sub_scale rfl (scale_self x)
end Go.Proofs.YtkoccekiojhidaaM
