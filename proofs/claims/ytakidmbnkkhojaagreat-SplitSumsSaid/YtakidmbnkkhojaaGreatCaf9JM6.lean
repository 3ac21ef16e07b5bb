-- Joined of: P3 P4 P5
import Derived.Test.YtakidmbnkkhojaaGreatCaf9JM5
import Derived.Test.YtakidmbnkkhojaaGreatCaf9D
section
namespace Go.Proofs.YtakidmbnkkhojaaGreatM
open Go.RowKit Go.Proofs.YtakidmbnkkhojaaGreat.F Go.Proofs.YtakidmbnkkhojaaGreatW.PrintWords Go.Proofs.YtakidmbnkkhojaaGreatW.PrintLast Go.Proofs.YtakidmbnkkhojaaGreatW.PrintMore Go.Proofs.YtakidmbnkkhojaaGreatX
set_option linter.unusedVariables false
set_option linter.unusedSimpArgs false
def wText (z:Int):ByteArray:=if z < 0 then (⟨#[45]⟩:ByteArray) ++ text z.natAbs else text z.natAbs
def fText (q:Rat):ByteArray:=if q.den=1 then wText q.num else (wText q.num ++ (⟨#[47]⟩:ByteArray)) ++ text q.den
theorem ba_one (c:UInt8) (t:ByteArray):((⟨#[c]⟩:ByteArray) ++ t).size=1 + t.size:=by rw [ByteArray.size_append];rfl
theorem ba_slash (t:ByteArray):(t ++ (⟨#[47]⟩:ByteArray)).size=t.size + 1:=by rw [ByteArray.size_append];rfl
theorem wText_size {z:Int} {m:Nat} (h:(lim z.natAbs).length≤m):(wText z).size≤20 * m + 2:=by
  have:=text_size h
  unfold wText
  split
  · rw [ba_one];omega
  · omega
theorem wPrint (z:Int) (h:(lim z.natAbs).length≤400000000):Ev (fun k=>whole_Int_Print.f k (lim z.natAbs) (decide (z < 0))) (wText z):=by
  have hs:=text_size h
  unfold whole_Int_Print.f wText
  by_cases hz:z < 0
  · rw [if_pos hz]
    refine Ev.pos (decide_eq_true hz) ?_
    exact Ev.bind (dPrint _ h) (Ev.pos (by omega) (Ev.const rfl))
  · rw [if_neg hz]
    refine Ev.neg (by simpa using hz) ?_
    exact Ev.bind (dPrint _ h) (Ev.const rfl)
theorem fPrint {n:Nat} {q:Rat} (hq:Sz n q) (hn:n≤100000000):Ev (fun k=>frac_Frac_Print.f k (lim q.num.natAbs) (decide (q.num < 0)) (lim (q.den - 1))) (fText q):=by
  obtain ⟨h1,h2⟩:=hq
  have hd:=den_pos q
  have hw:=wText_size h1
  have ht:=text_size h2
  unfold frac_Frac_Print.f fText
  refine Ev.bindc (zero_eq (q.den - 1)) ?_
  by_cases h:q.den=1
  · rw [if_pos h]
    refine Ev.pos (decide_eq_true (by omega)) ?_
    exact Ev.bind (wPrint _ (by omega)) (Ev.const rfl)
  · rw [if_neg h]
    refine Ev.neg (by rw [decide_eq_false (by omega)];decide) ?_
    refine Ev.bind (wPrint _ (by omega)) (Ev.pos (by omega) ?_)
    refine Ev.bind (fDen (by omega)) ?_
    refine Ev.bind (dPrint _ (by omega)) (Ev.pos (by rw [ba_slash];omega) (Ev.const rfl))
theorem r4Print (z:Int) (h:(lim z.natAbs).length≤400000000):Ev (fun k=>chattelref04_Print.f k (dig z.natAbs) (decide (z < 0))) (wText z):=by
  have hs:=text_size h
  have hl:=dlen_lim z.natAbs
  unfold chattelref04_Print.f wText
  refine Ev.bind (rPrint _ (by omega)) ?_
  by_cases hz:z < 0
  · rw [if_pos hz]
    exact Ev.pos (decide_eq_true hz) (Ev.pos (by omega) (Ev.const rfl))
  · rw [if_neg hz]
    exact Ev.neg (by simpa using hz) (Ev.const rfl)
theorem dig_is_one {d:Nat} (h:d≠1) (hl:((dig d).length:Int)=1) : ¬ rd (dig d) 0=1:=by
  intro e
  have hl':(dig d).length=1:=by omega
  have hv:=dig_v d
  have:dig d = [1]:=by
    match hx:dig d,hl' with
    | [c],_ =>
      rw [hx] at e
      have:c=1:=e
      rw [this]
  rw [this] at hv
  simp [vD,vl] at hv
  omega
theorem r5Print {n:Nat} {q:Rat} (hq:Sz n q) (hn:n≤100000000):Ev (fun k=>chattelref05_Print.f k (dig q.num.natAbs) (decide (q.num < 0)) (dig q.den)) (fText q):=by
  obtain ⟨h1,h2⟩:=hq
  have hd:=den_pos q
  have hw:=wText_size h1
  have ht:=text_size h2
  have hl:=dlen_lim q.den
  unfold chattelref05_Print.f fText
  refine Ev.bind (r4Print _ (by omega)) ?_
  by_cases h:q.den=1
  · rw [if_pos h,h,← dig_one]
    exact Ev.pos (by decide) (Ev.pos (by decide) (Ev.pos (by decide) (Ev.const rfl)))
  · rw [if_neg h]
    have last:Ev (fun k=>(chattelref01_Print.f k (dig q.den)).bind fun t=>if (wText q.num).size + 1≤9223372036854775807 then (if (wText q.num ++ (⟨#[47]⟩:ByteArray)).size + t.size≤9223372036854775807 then (some ((wText q.num ++ (⟨#[47]⟩:ByteArray)) ++ t)) else none) else none) ((wText q.num ++ (⟨#[47]⟩:ByteArray)) ++ text q.den) :=
      Ev.bind (rPrint _ (by omega)) (Ev.pos (by omega) (Ev.pos (by rw [ba_slash];omega) (Ev.const rfl)))
    by_cases hc:((dig q.den).length:Int)=1
    · exact Ev.pos hc (Ev.pos (by omega) (Ev.neg (dig_is_one h hc) last))
    · exact Ev.neg hc last
theorem dwlen_mul (x y:Int):(dig (x * y).natAbs).length≤(dig x.natAbs).length + (dig y.natAbs).length:=by
  rw [Int.natAbs_mul];exact dlen_mul _ _
theorem dwlen_add (x y:Int):(dig (x + y).natAbs).length≤max (dig x.natAbs).length (dig y.natAbs).length + 1 :=
  Nat.le_trans (dlen_mono (Int.natAbs_add_le x y)) (dlen_add _ _)
theorem r4Neg (z:Int):chattelref04_Neg.f (dig z.natAbs) (decide (z < 0))=some (dig (-z).natAbs,decide (-z < 0)):=by
  unfold chattelref04_Neg.f
  rw [rOf (z := -z) _ _ ?_]
  · rfl
  · unfold sgn
    by_cases h:z < 0
    · rw [decide_eq_true h,if_neg (by decide)];omega
    · rw [decide_eq_false h,if_pos (by decide)];omega
theorem r4Mul (x y:Int) (lx:(dig x.natAbs).length≤1000000000) (ly:(dig y.natAbs).length≤1000000000):Ev (fun k=>chattelref04_Mul.f k (dig x.natAbs) (decide (x < 0)) (dig y.natAbs) (decide (y < 0))) (dig (x * y).natAbs,decide (x * y < 0)):=by
  unfold chattelref04_Mul.f
  refine Ev.bind (RMul_ev x.natAbs y.natAbs (by omega) (by omega)) ?_
  exact Ev.bindc (rOf _ _ (sgn_mul x y)) (Ev.const rfl)
theorem r4Add (x y:Int) (lx:(dig x.natAbs).length≤1000000000) (ly:(dig y.natAbs).length≤1000000000):Ev (fun k=>chattelref04_Add.f k (dig x.natAbs) (decide (x < 0)) (dig y.natAbs) (decide (y < 0))) (dig (x + y).natAbs,decide (x + y < 0)):=by
  unfold chattelref04_Add.f
  by_cases h:decide (x < 0)=decide (y < 0)
  · refine Ev.pos (by rw [h];exact beq_self_eq_true _) ?_
    refine Ev.bind (RAdd_ev x.natAbs y.natAbs (by omega) (by omega)) ?_
    refine Ev.bindc (rOf (z:=x + y) _ _ ?_) (Ev.const rfl)
    rw [decide_eq_decide] at h
    unfold sgn
    by_cases hx:x < 0
    · rw [decide_eq_true hx,if_pos rfl];omega
    · rw [decide_eq_false hx,if_neg (by decide)];omega
  · refine Ev.neg (by rw [beq_iff_eq];exact h) ?_
    rw [decide_eq_decide] at h
    refine Ev.bind (RCmp_ev x.natAbs y.natAbs (by omega) (by omega)) ?_
    by_cases hl:x.natAbs < y.natAbs
    · refine Ev.neg (by unfold sg;rw [if_pos hl];decide) ?_
      refine Ev.bind (RSub_ev y.natAbs x.natAbs (by omega) (by omega)) ?_
      refine Ev.bindc (rOf (z:=x + y) _ _ ?_) (Ev.const rfl)
      unfold sgn
      by_cases hy:y < 0
      · rw [decide_eq_true hy,if_pos rfl];omega
      · rw [decide_eq_false hy,if_neg (by decide)];omega
    · refine Ev.pos (by unfold sg;rw [if_neg hl];split <;> decide) ?_
      refine Ev.bind (RSub_ev x.natAbs y.natAbs (by omega) (by omega)) ?_
      refine Ev.bindc (rOf (z:=x + y) _ _ ?_) (Ev.const rfl)
      unfold sgn
      by_cases hx:x < 0
      · rw [decide_eq_true hx,if_pos rfl];omega
      · rw [decide_eq_false hx,if_neg (by decide)];omega
def Dz (n:Nat) (q:Rat):Prop:=(dig q.num.natAbs).length≤n∧(dig q.den).length≤n
theorem dz_of {n:Nat} {q:Rat} (h:Sz n q):Dz (5 * n) q:=by
  obtain ⟨h1,h2⟩:=h
  have:=dlen_lim q.num.natAbs
  have:=dlen_lim q.den
  exact ⟨by omega,by omega⟩
theorem rDen (d:Nat):chattelref04_Of.f (dig d) false=some (dig d,false):=by
  have:=rOf d false (z:=(d:Int)) (by unfold sgn;rw [if_neg (by decide)])
  rw [nat_abs,nat_neg] at this
  exact this
theorem r4MulN (x:Int) (d:Nat) (lx:(dig x.natAbs).length≤1000000000) (ld:(dig d).length≤1000000000):Ev (fun k=>chattelref04_Mul.f k (dig x.natAbs) (decide (x < 0)) (dig d) false) (dig (x * d).natAbs,decide (x * d < 0)):=by
  have h:=r4Mul x (d:Int) lx (by rw [nat_abs];exact ld)
  rw [nat_neg,nat_abs] at h
  exact h
theorem rcross {n m:Nat} {p q:Rat} (hp:Dz n p) (hq:Dz m q) (hn:n≤10000000) (hm:m≤10000000) {l:List Int} {l':List Int} {b:Bool} :
    Ev (fun k=>chattelref05_cross.f k (dig p.num.natAbs) (decide (p.num < 0)) l l' b (dig q.den)) (dig (p.num * q.den).natAbs,decide (p.num * q.den < 0)):=by
  obtain ⟨p1,p2⟩:=hp
  obtain ⟨q1,q2⟩:=hq
  unfold chattelref05_cross.f
  exact Ev.bindc (rDen q.den) (Ev.bind (r4MulN p.num q.den (by omega) (by omega)) (Ev.const rfl))
theorem r5Add {n m:Nat} {p q:Rat} (hp:Dz n p) (hq:Dz m q) (hn:n≤10000000) (hm:m≤10000000) :
    Ev (fun k=>chattelref05_Add.f k (dig p.num.natAbs) (decide (p.num < 0)) (dig p.den) (dig q.num.natAbs) (decide (q.num < 0)) (dig q.den)) (dig (p + q).num.natAbs,decide ((p + q).num < 0),dig (p + q).den):=by
  have m1:=dwlen_mul p.num (q.den:Int)
  have m2:=dwlen_mul q.num (p.den:Int)
  have m3:=dwlen_add (p.num * (q.den:Int)) (q.num * (p.den:Int))
  have m4:=dlen_mul p.den q.den
  rw [nat_abs] at m1 m2
  have hd:0 < p.den * q.den:=Nat.mul_pos (den_pos p) (den_pos q)
  have c1:=rcross hp hq hn hm (l:=dig p.den) (l':=dig q.num.natAbs) (b:=decide (q.num < 0))
  have c2:=rcross hq hp hm hn (l:=dig q.den) (l':=dig p.num.natAbs) (b:=decide (p.num < 0))
  obtain ⟨p1,p2⟩:=hp
  obtain ⟨q1,q2⟩:=hq
  rw [Rat.add_def']
  unfold chattelref05_Add.f
  refine Ev.bind c1 (Ev.bind c2 (Ev.bind (r4Add _ _ (by omega) (by omega)) ?_))
  exact Ev.bind (RMul_ev p.den q.den (by omega) (by omega)) (Ev.bind (rMake _ _ hd (by omega) (by omega)) (Ev.const rfl))
theorem r5Mul {n m:Nat} {p q:Rat} (hp:Dz n p) (hq:Dz m q) (hn:n≤10000000) (hm:m≤10000000) :
    Ev (fun k=>chattelref05_Mul.f k (dig p.num.natAbs) (decide (p.num < 0)) (dig p.den) (dig q.num.natAbs) (decide (q.num < 0)) (dig q.den)) (dig (p * q).num.natAbs,decide ((p * q).num < 0),dig (p * q).den):=by
  have m1:=dwlen_mul p.num q.num
  have m4:=dlen_mul p.den q.den
  have hd:0 < p.den * q.den:=Nat.mul_pos (den_pos p) (den_pos q)
  obtain ⟨p1,p2⟩:=hp
  obtain ⟨q1,q2⟩:=hq
  rw [Rat.mul_def']
  unfold chattelref05_Mul.f
  refine Ev.bind (r4Mul _ _ (by omega) (by omega)) ?_
  exact Ev.bind (RMul_ev p.den q.den (by omega) (by omega)) (Ev.bind (rMake _ _ hd (by omega) (by omega)) (Ev.const rfl))
theorem r5Of (z t:Int) (ht:t≠0) (lz:(dig z.natAbs).length≤100000000) (ld:(dig t.natAbs).length≤100000000) :
    Ev (fun k=>chattelref05_Of.f k (dig z.natAbs) (decide (z < 0)) (dig t.natAbs) (decide (t < 0))) (dig (Rat.divInt z t).num.natAbs,decide ((Rat.divInt z t).num < 0),dig (Rat.divInt z t).den):=by
  have hd:0 < t.natAbs:=by omega
  rw [divInt_abs z t ht]
  unfold chattelref05_Of.f
  by_cases h:t < 0
  · rw [if_pos h]
    refine Ev.pos (decide_eq_true h) ?_
    exact Ev.bindc (r4Neg z) (Ev.bind (rMake (-z) _ hd (by rw [Int.natAbs_neg];exact lz) ld) (Ev.const rfl))
  · rw [if_neg h]
    refine Ev.neg (by simpa using h) ?_
    exact Ev.bind (rMake z _ hd lz ld) (Ev.const rfl)
theorem r4From (n:Int) (h : -9223372036854775807≤n∧n≤9223372036854775807):Ev (fun k=>chattelref04_From.f k n) (dig n.natAbs,decide (n < 0)):=by
  unfold chattelref04_From.f
  by_cases hn:n < 0
  · refine Ev.pos hn ?_
    have e:wrap64 (-n)=(n.natAbs:Int):=by unfold wrap64;omega
    rw [e]
    refine Ev.bind (Small_ev n.natAbs (by omega)) (Ev.bindc (rOf (z:=n) _ _ ?_) (Ev.const rfl))
    unfold sgn
    rw [if_pos rfl];omega
  · refine Ev.neg hn ?_
    have e:n=(n.natAbs:Int):=by omega
    have hs:=Small_ev n.natAbs (by omega)
    rw [← e] at hs
    refine Ev.bind hs (Ev.bindc (rOf (z:=n) _ _ ?_) (Ev.const rfl))
    unfold sgn
    rw [if_neg (by decide)];omega
end Go.Proofs.YtakidmbnkkhojaaGreatM
end
