import Derived.Test.YtkoccekiojhidaaC415JM6
import Derived.Test.YtkoccekiojhidaaC415D
namespace Go.Proofs.Ytkoccekiojhidaa.Pure
open Go.RowKit Go.Proofs.Ytkoccekiojhidaa.F Go.Proofs.YtkoccekiojhidaaW.PrintWords Go.Proofs.YtkoccekiojhidaaW.PrintLast Go.Proofs.YtkoccekiojhidaaM
set_option linter.unusedVariables false
theorem lowest_self (q:Rat):rsg (q - q)=0:=rsg_zero.2 Rat.sub_self
theorem int_text (z:Int):fText (z:Rat)=wText z:=by
  unfold fText
  rw [Rat.den_intCast,if_pos rfl,Rat.num_intCast]
theorem gcd_low (q:Rat):Nat.gcd q.num.natAbs q.den=1:=q.reduced
theorem sg_one (a:Nat):sg a 1=0 ↔ a=1:=by
  unfold sg
  repeat' split
  all_goals omega
theorem FracLowest_j1 {x:Rat} {k:Int} (hx:Sz 4 x) (hk:(lim k.natAbs).length≤3) (t:ByteArray) (ht:fText x=t) :
    Ev (fun n=>chattellaw05_FracLowest.j1 n 0 t (lim x.num.natAbs) (decide (x.num < 0)) (lim (x.den - 1)) (dig x.num.natAbs) (decide (x.num < 0)) (dig x.den) (lim k.natAbs) (decide (k < 0))
      (lim x.num.natAbs) (decide (x.num < 0)) (lim (x.den - 1)) (lim 1)) true:=by
  refine Ev.unroll ?_
  simp only [chattellaw05_FracLowest.j1]
  have hc:=fCmpS hx hx (by decide) (by decide)
  rw [lowest_self] at hc
  have hp:=fPrint hx (by decide)
  have l1:=len_one
  have hkq:=fPrint (sz_int (z:=k) (n:=3) hk (by decide)) (by decide)
  rw [int_text] at hkq
  refine Ev.bind wakes5 (Ev.pos (by simp) (Ev.pos (by simp) ?_))
  refine Ev.bind hc (Ev.pos rfl ?_)
  refine Ev.bind hp (Ev.bind hp (Ev.pos rfl ?_))
  refine Ev.bind one_lim (Ev.bind (cmp_ev 1 1 (by omega) (by omega)) (Ev.pos ((sg_one 1).2 rfl) ?_))
  refine Ev.bind hp (Ev.pos (by rw [ht]) ?_)
  refine Ev.bind hp (Ev.bind (r5Print hx (by decide)) (Ev.pos rfl ?_))
  refine Ev.bindc (fFrom k) (Ev.bind hkq (Ev.bind (wPrint k (by omega)) (Ev.pos rfl ?_)))
  refine Ev.bindc (fSign x) (Ev.bindc (x:=(lim x.num.natAbs,decide (x.num < 0))) rfl (Ev.bindc (wSign x.num) (Ev.const ?_)))
  unfold rsg
  simp
theorem FracLowest_j0 {x:Rat} {k:Int} (hx:Sz 4 x) (hk:(lim k.natAbs).length≤3) (h0:k≠0) :
    Ev (fun n=>chattellaw05_FracLowest.j0 n (lim x.num.natAbs) (decide (x.num < 0)) (lim (x.den - 1)) (dig x.num.natAbs) (decide (x.num < 0)) (dig x.den) (lim k.natAbs) (decide (k < 0))) true:=by
  refine Ev.unroll ?_
  simp only [chattellaw05_FracLowest.j0]
  obtain ⟨x1,x2⟩:=hx
  have hd:=den_pos x
  have l1:=len_one
  have m1:=wlen_mul x.num k
  have m2:=wlen_mul (x.den:Int) k
  rw [nat_abs] at m2
  have ht:(x.den:Int) * k≠0:=Int.mul_ne_zero (by omega) h0
  have hof:=fOfZ (x.num * k) ((x.den:Int) * k) ht (by omega) (by omega)
  rw [Rat.divInt_mul_right h0,Rat.num_divInt_den] at hof
  have hw:=wOf x.den false (z:=(x.den:Int)) (by unfold sgn;rw [if_neg (by decide)])
  have hm:=wMul (x.den:Int) k (by rw [nat_abs];omega) (by omega)
  have hg:=gcd_ev x.den x.num.natAbs (by omega) (by omega)
  rw [gcd_low] at hg
  have num:frac_Frac_Num.f (lim x.num.natAbs) (decide (x.num < 0)) (lim (x.den - 1))=some (lim x.num.natAbs,decide (x.num < 0)):=rfl
  refine Ev.bindc num (Ev.bind (wMul x.num k (by omega) (by omega)) (Ev.bind (fDen (by omega)) (Ev.bindc hw (Ev.bind hm (Ev.bind hof ?_)))))
  refine Ev.bindc num (Ev.bindc (x:=lim x.num.natAbs) rfl (Ev.bind (fDen (by omega)) (Ev.bind hg ?_)))
  refine Ev.bindc num (Ev.bind (wPrint x.num (by omega)) (Ev.bind (fDen (by omega)) (Ev.bind one_lim (Ev.bind (cmp_ev x.den 1 (by omega) (by omega)) ?_))))
  by_cases h:x.den=1
  · refine Ev.pos ((sg_one _).2 h) ?_
    exact FracLowest_j1 ⟨x1,x2⟩ hk _ (by unfold fText;rw [if_pos h])
  · have s1:=text_size x2
    have s2:=wText_size x1
    refine Ev.neg (fun e=>h ((sg_one _).1 e)) ?_
    refine Ev.bind (fDen (by omega)) (Ev.bind (dPrint x.den (by omega)) (Ev.pos (by omega) (Ev.pos (by rw [ba_one];omega) ?_)))
    exact FracLowest_j1 ⟨x1,x2⟩ hk _ (by unfold fText;rw [if_neg h,ByteArray.append_assoc])
theorem FracLowest:chattellaw05_FracLowest.Pure:=by
  intro l0 l1 b l2 b' _ _ w0 _ _ w1 _ _ w2
  obtain ⟨x,hx,nx⟩:=num_ev b w0 w1
  obtain ⟨c,vc,lc,fc,nc⟩:=cut_num w2 3
  have c0:=cut_le_ l2 3
  have k0:l2.take ((mn (l2.length:Int) 3):Int).toNat=l2.take 3:=cutn_ l2 3
  have l1':=len_one
  refine Ev.rounds ?_
  unfold chattellaw05_FracLowest.f
  refine Ev.bind nx (Ev.pos c0.1 (Ev.pos c0.2 ?_))
  rw [k0]
  refine Ev.bind (of_lim vc fc nc (by decide)) ?_
  refine Ev.bindc (wOf c b' rfl) (Ev.bindc (wSign _) ?_)
  by_cases h:sgn b' c=0
  · refine Ev.pos (by rw [h];rfl) ?_
    refine Ev.bind (wFrom 1 (by decide)) ?_
    exact FracLowest_j0 hx (by show (lim 1).length≤3;omega) (by decide)
  · refine Ev.neg (fun e=>h (Int.sign_eq_zero_iff_zero.1 e)) ?_
    exact FracLowest_j0 hx (by rw [sgn_abs];exact lc) h
end Go.Proofs.Ytkoccekiojhidaa.Pure
