-- Joined of: P4 P5 PureFracSums
import Derived.Test.YtkoccekiojhidaaC415JM6
import Derived.Test.YtkoccekiojhidaaC415D
section
namespace Go.Proofs.YtkoccekiojhidaaM
open Go.RowKit Go.Proofs.Ytkoccekiojhidaa.F Go.Proofs.YtkoccekiojhidaaW.PrintWords Go.Proofs.YtkoccekiojhidaaW.PrintLast Go.Proofs.YtkoccekiojhidaaW.PrintMore Go.Proofs.YtkoccekiojhidaaX
set_option linter.unusedVariables false
set_option linter.unusedSimpArgs false
theorem dwlen_mul (x y:Int):(dig (x * y).natAbs).length≤(dig x.natAbs).length + (dig y.natAbs).length:=by
  rw [Int.natAbs_mul];exact dlen_mul _ _
theorem dwlen_add (x y:Int):(dig (x + y).natAbs).length≤max (dig x.natAbs).length (dig y.natAbs).length + 1 :=
  Nat.le_trans (dlen_mono (Int.natAbs_add_le x y)) (dlen_add _ _)
theorem r4Sign (z:Int):chattelref04_Sign.f (dig z.natAbs) (decide (z < 0))=some z.sign:=by
  unfold chattelref04_Sign.f
  have:=dig_nil (n:=z.natAbs)
  by_cases h0:z=0
  · subst h0;rw [if_pos (by rw [this.2 rfl];rfl)];rfl
  · rw [if_neg (by omega)]
    by_cases h:z < 0
    · rw [if_pos (decide_eq_true h),Int.sign_eq_neg_one_of_neg h]
    · rw [if_neg (by simpa using h),Int.sign_eq_one_of_pos (by omega)]
theorem r4Neg (z:Int):chattelref04_Neg.f (dig z.natAbs) (decide (z < 0))=some (dig (-z).natAbs,decide (-z < 0)):=by
  unfold chattelref04_Neg.f
  rw [rOf (z := -z) _ _ ?_]
  · rfl
  · unfold sgn
    by_cases h:z < 0
    · rw [decide_eq_true h,if_neg (by decide)];omega
    · rw [decide_eq_false h,if_pos (by decide)];omega
theorem r4Mul (x y:Int) (lx:(dig x.natAbs).length≤1000000000) (ly:(dig y.natAbs).length≤1000000000):Ev (fun k=>chattelref04_Mul.f k (dig x.natAbs) (decide (x < 0)) (dig y.natAbs) (decide (y < 0))) (dig (x * y).natAbs,decide (x * y < 0)):=by
  unfold chattelref04_Mul.f
  refine Ev.bind (RMul_ev x.natAbs y.natAbs (by omega) (by omega)) ?_
  exact Ev.bindc (rOf _ _ (sgn_mul x y)) (Ev.const rfl)
theorem r4Add (x y:Int) (lx:(dig x.natAbs).length≤1000000000) (ly:(dig y.natAbs).length≤1000000000):Ev (fun k=>chattelref04_Add.f k (dig x.natAbs) (decide (x < 0)) (dig y.natAbs) (decide (y < 0))) (dig (x + y).natAbs,decide (x + y < 0)):=by
  unfold chattelref04_Add.f
  by_cases h:decide (x < 0)=decide (y < 0)
  · refine Ev.pos (by rw [h];exact beq_self_eq_true _) ?_
    refine Ev.bind (RAdd_ev x.natAbs y.natAbs (by omega) (by omega)) ?_
    refine Ev.bindc (rOf (z:=x + y) _ _ ?_) (Ev.const rfl)
    rw [decide_eq_decide] at h
    unfold sgn
    by_cases hx:x < 0
    · rw [decide_eq_true hx,if_pos rfl];omega
    · rw [decide_eq_false hx,if_neg (by decide)];omega
  · refine Ev.neg (by rw [beq_iff_eq];exact h) ?_
    rw [decide_eq_decide] at h
    refine Ev.bind (RCmp_ev x.natAbs y.natAbs (by omega) (by omega)) ?_
    by_cases hl:x.natAbs < y.natAbs
    · refine Ev.neg (by unfold sg;rw [if_pos hl];decide) ?_
      refine Ev.bind (RSub_ev y.natAbs x.natAbs (by omega) (by omega)) ?_
      refine Ev.bindc (rOf (z:=x + y) _ _ ?_) (Ev.const rfl)
      unfold sgn
      by_cases hy:y < 0
      · rw [decide_eq_true hy,if_pos rfl];omega
      · rw [decide_eq_false hy,if_neg (by decide)];omega
    · refine Ev.pos (by unfold sg;rw [if_neg hl];split <;> decide) ?_
      refine Ev.bind (RSub_ev x.natAbs y.natAbs (by omega) (by omega)) ?_
      refine Ev.bindc (rOf (z:=x + y) _ _ ?_) (Ev.const rfl)
      unfold sgn
      by_cases hx:x < 0
      · rw [decide_eq_true hx,if_pos rfl];omega
      · rw [decide_eq_false hx,if_neg (by decide)];omega
theorem r4Sub (x y:Int) (lx:(dig x.natAbs).length≤1000000000) (ly:(dig y.natAbs).length≤1000000000):Ev (fun k=>chattelref04_Sub.f k (dig x.natAbs) (decide (x < 0)) (dig y.natAbs) (decide (y < 0))) (dig (x - y).natAbs,decide (x - y < 0)):=by
  unfold chattelref04_Sub.f
  refine Ev.bindc (r4Neg y) ?_
  have h:=r4Add x (-y) lx (by rw [Int.natAbs_neg];exact ly)
  rw [← Int.sub_eq_add_neg] at h
  exact Ev.bind h (Ev.const rfl)
theorem r4Cmp (x y:Int) (lx:(dig x.natAbs).length≤1000000000) (ly:(dig y.natAbs).length≤1000000000):Ev (fun k=>chattelref04_Cmp.f k (dig x.natAbs) (decide (x < 0)) (dig y.natAbs) (decide (y < 0))) (x - y).sign:=by
  unfold chattelref04_Cmp.f
  exact Ev.bind (r4Sub x y lx ly) (Ev.bindc (r4Sign _) (Ev.const rfl))
def Dz (n:Nat) (q:Rat):Prop:=(dig q.num.natAbs).length≤n∧(dig q.den).length≤n
theorem dz_of {n:Nat} {q:Rat} (h:Sz n q):Dz (5 * n) q:=by
  obtain ⟨h1,h2⟩:=h
  have:=dlen_lim q.num.natAbs
  have:=dlen_lim q.den
  exact ⟨by omega,by omega⟩
theorem rDen (d:Nat):chattelref04_Of.f (dig d) false=some (dig d,false):=by
  have:=rOf d false (z:=(d:Int)) (by unfold sgn;rw [if_neg (by decide)])
  rw [nat_abs,nat_neg] at this
  exact this
theorem r4MulN (x:Int) (d:Nat) (lx:(dig x.natAbs).length≤1000000000) (ld:(dig d).length≤1000000000):Ev (fun k=>chattelref04_Mul.f k (dig x.natAbs) (decide (x < 0)) (dig d) false) (dig (x * d).natAbs,decide (x * d < 0)):=by
  have h:=r4Mul x (d:Int) lx (by rw [nat_abs];exact ld)
  rw [nat_neg,nat_abs] at h
  exact h
theorem rcross {n m:Nat} {p q:Rat} (hp:Dz n p) (hq:Dz m q) (hn:n≤10000000) (hm:m≤10000000) {l:List Int} {l':List Int} {b:Bool} :
    Ev (fun k=>chattelref05_cross.f k (dig p.num.natAbs) (decide (p.num < 0)) l l' b (dig q.den)) (dig (p.num * q.den).natAbs,decide (p.num * q.den < 0)):=by
  obtain ⟨p1,p2⟩:=hp
  obtain ⟨q1,q2⟩:=hq
  unfold chattelref05_cross.f
  exact Ev.bindc (rDen q.den) (Ev.bind (r4MulN p.num q.den (by omega) (by omega)) (Ev.const rfl))
theorem r5Neg (q:Rat) {l:List Int}:chattelref05_Neg.f (dig q.num.natAbs) (decide (q.num < 0)) l=some (dig (-q).num.natAbs,decide ((-q).num < 0),l):=by
  unfold chattelref05_Neg.f
  rw [r4Neg];rfl
theorem dz_neg {n:Nat} {q:Rat} (h:Dz n q):Dz n (-q):=by
  obtain ⟨h1,h2⟩:=h
  refine ⟨?_,h2⟩
  rw [show (-q).num = -q.num from rfl,Int.natAbs_neg];exact h1
theorem r5Add {n m:Nat} {p q:Rat} (hp:Dz n p) (hq:Dz m q) (hn:n≤10000000) (hm:m≤10000000) :
    Ev (fun k=>chattelref05_Add.f k (dig p.num.natAbs) (decide (p.num < 0)) (dig p.den) (dig q.num.natAbs) (decide (q.num < 0)) (dig q.den)) (dig (p + q).num.natAbs,decide ((p + q).num < 0),dig (p + q).den):=by
  have m1:=dwlen_mul p.num (q.den:Int)
  have m2:=dwlen_mul q.num (p.den:Int)
  have m3:=dwlen_add (p.num * (q.den:Int)) (q.num * (p.den:Int))
  have m4:=dlen_mul p.den q.den
  rw [nat_abs] at m1 m2
  have hd:0 < p.den * q.den:=Nat.mul_pos (den_pos p) (den_pos q)
  have c1:=rcross hp hq hn hm (l:=dig p.den) (l':=dig q.num.natAbs) (b:=decide (q.num < 0))
  have c2:=rcross hq hp hm hn (l:=dig q.den) (l':=dig p.num.natAbs) (b:=decide (p.num < 0))
  obtain ⟨p1,p2⟩:=hp
  obtain ⟨q1,q2⟩:=hq
  rw [Rat.add_def']
  unfold chattelref05_Add.f
  refine Ev.bind c1 (Ev.bind c2 (Ev.bind (r4Add _ _ (by omega) (by omega)) ?_))
  exact Ev.bind (RMul_ev p.den q.den (by omega) (by omega)) (Ev.bind (rMake _ _ hd (by omega) (by omega)) (Ev.const rfl))
theorem r5Sub {n m:Nat} {p q:Rat} (hp:Dz n p) (hq:Dz m q) (hn:n≤10000000) (hm:m≤10000000) :
    Ev (fun k=>chattelref05_Sub.f k (dig p.num.natAbs) (decide (p.num < 0)) (dig p.den) (dig q.num.natAbs) (decide (q.num < 0)) (dig q.den)) (dig (p - q).num.natAbs,decide ((p - q).num < 0),dig (p - q).den):=by
  have h:=r5Add hp (dz_neg hq) hn hm
  rw [← Rat.sub_eq_add_neg] at h
  unfold chattelref05_Sub.f
  exact Ev.bindc (r5Neg q) (Ev.bind h (Ev.const rfl))
theorem r5Mul {n m:Nat} {p q:Rat} (hp:Dz n p) (hq:Dz m q) (hn:n≤10000000) (hm:m≤10000000) :
    Ev (fun k=>chattelref05_Mul.f k (dig p.num.natAbs) (decide (p.num < 0)) (dig p.den) (dig q.num.natAbs) (decide (q.num < 0)) (dig q.den)) (dig (p * q).num.natAbs,decide ((p * q).num < 0),dig (p * q).den):=by
  have m1:=dwlen_mul p.num q.num
  have m4:=dlen_mul p.den q.den
  have hd:0 < p.den * q.den:=Nat.mul_pos (den_pos p) (den_pos q)
  obtain ⟨p1,p2⟩:=hp
  obtain ⟨q1,q2⟩:=hq
  rw [Rat.mul_def']
  unfold chattelref05_Mul.f
  refine Ev.bind (r4Mul _ _ (by omega) (by omega)) ?_
  exact Ev.bind (RMul_ev p.den q.den (by omega) (by omega)) (Ev.bind (rMake _ _ hd (by omega) (by omega)) (Ev.const rfl))
theorem r5Of (z t:Int) (ht:t≠0) (lz:(dig z.natAbs).length≤100000000) (ld:(dig t.natAbs).length≤100000000) :
    Ev (fun k=>chattelref05_Of.f k (dig z.natAbs) (decide (z < 0)) (dig t.natAbs) (decide (t < 0))) (dig (Rat.divInt z t).num.natAbs,decide ((Rat.divInt z t).num < 0),dig (Rat.divInt z t).den):=by
  have hd:0 < t.natAbs:=by omega
  rw [divInt_abs z t ht]
  unfold chattelref05_Of.f
  by_cases h:t < 0
  · rw [if_pos h]
    refine Ev.pos (decide_eq_true h) ?_
    exact Ev.bindc (r4Neg z) (Ev.bind (rMake (-z) _ hd (by rw [Int.natAbs_neg];exact lz) ld) (Ev.const rfl))
  · rw [if_neg h]
    refine Ev.neg (by simpa using h) ?_
    exact Ev.bind (rMake z _ hd lz ld) (Ev.const rfl)
theorem r5Quo {n m:Nat} {p q:Rat} (hp:Dz n p) (hq:Dz m q) (hn:n≤10000000) (hm:m≤10000000) (h0:q≠0) :
    Ev (fun k=>chattelref05_Quo.f k (dig p.num.natAbs) (decide (p.num < 0)) (dig p.den) (dig q.num.natAbs) (decide (q.num < 0)) (dig q.den)) (dig (p / q).num.natAbs,decide ((p / q).num < 0),dig (p / q).den):=by
  have m1:=dwlen_mul p.num (q.den:Int)
  have m2:=dwlen_mul q.num (p.den:Int)
  rw [nat_abs] at m1 m2
  have c1:=rcross hp hq hn hm (l:=dig p.den) (l':=dig q.num.natAbs) (b:=decide (q.num < 0))
  obtain ⟨p1,p2⟩:=hp
  obtain ⟨q1,q2⟩:=hq
  have ht:q.num * (p.den:Int)≠0:=Int.mul_ne_zero (fun h=>h0 (Rat.num_eq_zero.1 h)) (by have:=den_pos p;omega)
  rw [div_as,Int.mul_comm (p.den:Int) q.num]
  unfold chattelref05_Quo.f
  refine Ev.bind c1 (Ev.bindc (rDen p.den) (Ev.bind (r4MulN q.num p.den (by omega) (by omega)) ?_))
  exact Ev.bind (r5Of _ _ ht (by omega) (by omega)) (Ev.const rfl)
theorem r5Cmp {n m:Nat} {p q:Rat} (hp:Dz n p) (hq:Dz m q) (hn:n≤10000000) (hm:m≤10000000) :
    Ev (fun k=>chattelref05_Cmp.f k (dig p.num.natAbs) (decide (p.num < 0)) (dig p.den) (dig q.num.natAbs) (decide (q.num < 0)) (dig q.den)) (rsg (p - q)):=by
  have m1:=dwlen_mul p.num (q.den:Int)
  have m2:=dwlen_mul q.num (p.den:Int)
  rw [nat_abs] at m1 m2
  have c1:=rcross hp hq hn hm (l:=dig p.den) (l':=dig q.num.natAbs) (b:=decide (q.num < 0))
  have c2:=rcross hq hp hm hn (l:=dig q.den) (l':=dig p.num.natAbs) (b:=decide (p.num < 0))
  obtain ⟨p1,p2⟩:=hp
  obtain ⟨q1,q2⟩:=hq
  rw [← rsg_sub]
  unfold chattelref05_Cmp.f
  exact Ev.bind c1 (Ev.bind c2 (Ev.bind (r4Cmp _ _ (by omega) (by omega)) (Ev.const rfl)))
theorem r4From (n:Int) (h : -9223372036854775807≤n∧n≤9223372036854775807):Ev (fun k=>chattelref04_From.f k n) (dig n.natAbs,decide (n < 0)):=by
  unfold chattelref04_From.f
  by_cases hn:n < 0
  · refine Ev.pos hn ?_
    have e:wrap64 (-n)=(n.natAbs:Int):=by unfold wrap64;omega
    rw [e]
    refine Ev.bind (Small_ev n.natAbs (by omega)) (Ev.bindc (rOf (z:=n) _ _ ?_) (Ev.const rfl))
    unfold sgn
    rw [if_pos rfl];omega
  · refine Ev.neg hn ?_
    have e:n=(n.natAbs:Int):=by omega
    have hs:=Small_ev n.natAbs (by omega)
    rw [← e] at hs
    refine Ev.bind hs (Ev.bindc (rOf (z:=n) _ _ ?_) (Ev.const rfl))
    unfold sgn
    rw [if_neg (by decide)];omega
theorem r4Floor_j0 (x z:Int) (d:Nat) (up:Bool) (lx:(dig x.natAbs).length≤10000000) (lz:(dig z.natAbs).length≤10000000) (ld:(dig d).length≤10000000) :
    ∃ r:List Int×Bool,Ev (fun k=>chattelref04_Floor.j0 k up (dig x.natAbs) (decide (x < 0)) (dig d) false (dig z.natAbs) (decide (z < 0))) (dig (if up=true then z - 1 else z).natAbs,decide ((if up=true then z - 1 else z) < 0),r.1,r.2):=by
  have l1:(dig (1:Int).natAbs).length≤1:=dig_len_le (by decide)
  cases up with
  | true =>
    have a1:=dwlen_add z (-1)
    rw [← Int.sub_eq_add_neg,show (-1:Int).natAbs=(1:Int).natAbs from rfl] at a1
    have m1:=dwlen_mul (z - 1) (d:Int)
    rw [nat_abs] at m1
    refine ⟨(dig (x - (z - 1) * d).natAbs,decide (x - (z - 1) * d < 0)),Ev.unroll ?_⟩
    simp only [chattelref04_Floor.j0]
    refine Ev.pos (by simp) ?_
    refine Ev.bind (r4From 1 (by decide)) (Ev.bind (r4Sub z 1 (by omega) (by omega)) ?_)
    exact Ev.bind (r4MulN (z - 1) d (by omega) (by omega)) (Ev.bind (r4Sub x _ (by omega) (by omega)) (Ev.const rfl))
  | false =>
    have m1:=dwlen_mul z (d:Int)
    rw [nat_abs] at m1
    refine ⟨(dig (x - z * d).natAbs,decide (x - z * d < 0)),Ev.unroll ?_⟩
    simp only [chattelref04_Floor.j0]
    refine Ev.neg (by simp) ?_
    exact Ev.bind (r4MulN z d (by omega) (by omega)) (Ev.bind (r4Sub x _ (by omega) (by omega)) (Ev.const rfl))
theorem r5Floor {n:Nat} {q:Rat} (hq:Dz n q) (hn:n≤1000000):Ev (fun k=>chattelref05_Floor.f k (dig q.num.natAbs) (decide (q.num < 0)) (dig q.den)) (dig q.floor.natAbs,decide (q.floor < 0)):=by
  obtain ⟨q1,q2⟩:=hq
  have hd:=den_pos q
  have lq:=dlen_mono (Nat.div_le_self q.num.natAbs q.den)
  rw [Rat.floor_def]
  unfold chattelref05_Floor.f
  refine Ev.bindc (rDen q.den) ?_
  have key : ∃ r:List Int×Bool,Ev (fun k=>chattelref04_Floor.f k (dig q.num.natAbs) (decide (q.num < 0)) (dig q.den) false) (dig (q.num / (q.den:Int)).natAbs,decide (q.num / (q.den:Int) < 0),r.1,r.2):=by
    unfold chattelref04_Floor.f
    by_cases hx:q.num < 0
    · have fn:=floor_neg hd hx
      obtain ⟨r,h⟩:=r4Floor_j0 q.num (-((q.num.natAbs / q.den:Nat):Int)) q.den (decide (((dig (q.num.natAbs % q.den)).length:Int) > 0)) (by omega) (by rw [Int.natAbs_neg,Int.natAbs_natCast];omega) (by omega)
      refine ⟨r,?_⟩
      refine Ev.bind (divmod_ev q.num.natAbs q.den hd (by omega) (by omega)) ?_
      refine Ev.bindc (rOf (z := -((q.num.natAbs / q.den:Nat):Int)) _ _ (by rw [decide_eq_true hx];unfold sgn;rw [if_pos (by decide)])) ?_
      refine Ev.pos (by rw [decide_eq_true hx];rfl) ?_
      have e:(if decide (((dig (q.num.natAbs % q.den)).length:Int) > 0)=true then -((q.num.natAbs / q.den:Nat):Int) - 1 else -((q.num.natAbs / q.den:Nat):Int))=q.num / (q.den:Int):=by
        have hz:=dig_nil (n:=q.num.natAbs % q.den)
        rw [fn]
        by_cases h0:q.num.natAbs % q.den=0
        · rw [if_pos h0,if_neg (by rw [hz.2 h0];decide),Int.sub_zero]
        · rw [if_neg h0,if_pos (decide_eq_true (by have:(dig (q.num.natAbs % q.den)).length≠0:=fun e=>h0 (hz.1 e);omega))]
      rw [e] at h
      exact h
    · have fp:=floor_pos hd hx
      obtain ⟨r,h⟩:=r4Floor_j0 q.num ((q.num.natAbs / q.den:Nat):Int) q.den false (by omega) (by rw [Int.natAbs_natCast];omega) (by omega)
      refine ⟨r,?_⟩
      refine Ev.bind (divmod_ev q.num.natAbs q.den hd (by omega) (by omega)) ?_
      refine Ev.bindc (rOf (z:=((q.num.natAbs / q.den:Nat):Int)) _ _ (by rw [decide_eq_false hx];unfold sgn;rw [if_neg (by decide)])) ?_
      refine Ev.neg (by rw [decide_eq_false hx];decide) ?_
      rw [if_neg (by decide),← fp] at h
      rw [← fp]
      exact h
  obtain ⟨r,h⟩:=key
  exact Ev.bind h (Ev.const rfl)
end Go.Proofs.YtkoccekiojhidaaM
end

section
namespace Go.Proofs.Ytkoccekiojhidaa.Pure
open Go.RowKit Go.Proofs.Ytkoccekiojhidaa.F Go.Proofs.YtkoccekiojhidaaW.PrintWords Go.Proofs.YtkoccekiojhidaaW.PrintLast Go.Proofs.YtkoccekiojhidaaM
set_option linter.unusedVariables false
theorem fQuo0 {n:Nat} {p:Rat} (hp:Sz n p) (hn:n≤100000000):Ev (fun k=>frac_Frac_Quo.f k (lim p.num.natAbs) (decide (p.num < 0)) (lim (p.den - 1)) (lim (0:Rat).num.natAbs) (decide ((0:Rat).num < 0)) (lim ((0:Rat).den - 1))) ([],false,[],8):=by
  obtain ⟨p1,p2⟩:=hp
  have l1:=len_one
  have l0:(lim (0:Int).natAbs).length≤1:=by show (lim 0).length≤1;rw [lim_zero];decide
  have m1:=wlen_mul p.num ((0:Rat).den:Int)
  rw [nat_abs] at m1
  unfold frac_Frac_Quo.f
  refine Ev.bind (fden (q:=0) (by show (lim 1).length≤1000000000;omega)) ?_
  refine Ev.bind (wMulN p.num (0:Rat).den (by omega) (by show (lim 1).length≤1000000000;omega)) ?_
  refine Ev.bind (fden (by omega)) ?_
  have hm:=wMulD p.den (0:Rat).num (by omega) (by show (lim (0:Int).natAbs).length≤1000000000;omega)
  rw [show (p.den:Int) * (0:Rat).num=0 from Int.mul_zero _] at hm
  refine Ev.bind hm ?_
  refine Ev.bind (a:=((([]:List Int),false,([]:List Int),(8:Int)):List Int×Bool×List Int×Int)) ?_ (Ev.const rfl)
  unfold frac_Of.f
  exact Ev.bindc (wSign 0) (Ev.pos rfl (Ev.const rfl))
theorem FracSums_j0 {x y:Rat} (hx:Sz 4 x) (hy:Sz 4 y) :
    Ev (fun k=>chattellaw05_FracSums.j0 k false (lim x.num.natAbs) (decide (x.num < 0)) (lim (x.den - 1)) (dig x.num.natAbs) (decide (x.num < 0)) (dig x.den) (lim y.num.natAbs) (decide (y.num < 0)) (lim (y.den - 1)) (dig y.num.natAbs) (decide (y.num < 0)) (dig y.den)) true:=by
  refine Ev.unroll ?_
  simp only [chattellaw05_FracSums.j0]
  have dx:=dz_of hx
  have dy:=dz_of hy
  obtain ⟨a1,s1⟩:=fAdd hx hy (by decide) (by decide)
  obtain ⟨a2,s2⟩:=fSub hx hy (by decide) (by decide)
  obtain ⟨a3,s3⟩:=fMul hx hy (by decide) (by decide)
  obtain ⟨a4,f4⟩:=fFloor hx (by decide)
  refine Ev.neg (by decide) (Ev.bind wakes5 (Ev.pos rfl ?_))
  refine Ev.bind a1 (Ev.bind (fPrint s1 (by decide)) (Ev.bind (r5Add dx dy (by decide) (by decide)) (Ev.bind (r5Print s1 (by decide)) (Ev.pos rfl ?_))))
  refine Ev.bind a2 (Ev.bind (fPrint s2 (by decide)) (Ev.bind (r5Sub dx dy (by decide) (by decide)) (Ev.bind (r5Print s2 (by decide)) (Ev.pos rfl ?_))))
  refine Ev.bind a3 (Ev.bind (fPrint s3 (by decide)) (Ev.bind (r5Mul dx dy (by decide) (by decide)) (Ev.bind (r5Print s3 (by decide)) (Ev.pos rfl ?_))))
  refine Ev.bind (fCmpS hx hy (by decide) (by decide)) (Ev.bind (r5Cmp dx dy (by decide) (by decide)) (Ev.pos rfl ?_))
  refine Ev.bindc (fNeg x) (Ev.bind (fPrint (sz_neg hx) (by decide)) (Ev.bindc (r5Neg x) (Ev.bind (r5Print (sz_neg hx) (by decide)) (Ev.pos rfl ?_))))
  refine Ev.bind a4 (Ev.bind (wPrint x.floor (by omega)) (Ev.bind (r5Floor dx (by decide)) (Ev.bind (r4Print x.floor (by omega)) (Ev.const ?_))))
  simp
theorem FracSums:chattellaw05_FracSums.Pure:=by
  intro l0 l1 b l2 l3 b' _ _ w0 _ _ w1 _ _ w2 _ _ w3
  obtain ⟨x,hx,nx⟩:=num_ev b w0 w1
  obtain ⟨y,hy,ny⟩:=num_ev b' w2 w3
  have hj:=FracSums_j0 hx hy
  refine Ev.rounds ?_
  unfold chattellaw05_FracSums.f
  refine Ev.bind nx (Ev.bind ny ?_)
  by_cases h:y=0
  · subst h
    refine Ev.bind (fQuo0 hx (by decide)) ?_
    refine Ev.bindc (fSign 0) (Ev.pos rfl (Ev.pos rfl ?_))
    refine Ev.bindc (x:=(0:Int)) rfl (Ev.pos rfl (Ev.bindc (fSign 0) (Ev.pos rfl hj)))
  · obtain ⟨q1,s1⟩:=fQuo hx hy (by decide) (by decide) h
    have h0 : ¬ rsg y=0:=fun e=>h (rsg_zero.1 e)
    refine Ev.bind q1 ?_
    refine Ev.bindc (fSign y) (Ev.neg h0 (Ev.bindc (fSign y) (Ev.neg h0 (Ev.pos rfl ?_))))
    refine Ev.bind (fPrint s1 (by decide)) (Ev.bind (r5Quo (dz_of hx) (dz_of hy) (by decide) (by decide) h) (Ev.bind (r5Print s1 (by decide)) ?_))
    rw [show ((fText (x / y)).toList != (fText (x / y)).toList)=false by simp]
    exact hj
end Go.Proofs.Ytkoccekiojhidaa.Pure
end
