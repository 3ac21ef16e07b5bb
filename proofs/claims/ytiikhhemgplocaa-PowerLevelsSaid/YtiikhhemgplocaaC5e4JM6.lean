-- Joined of: U5 PurePowerLevels
import Derived.Test.YtiikhhemgplocaaC5e4JM5
import Derived.Test.YtiikhhemgplocaaC5e4D
section
namespace Go.Proofs.YtiikhhemgplocaaM
open Go.RowKit Go.Proofs.YtiikhhemgplocaaW.PrintWords Go.Proofs.YtiikhhemgplocaaW.PrintLast Go.Proofs.YtiikhhemgplocaaW.PrintMore Go.Proofs.YtiikhhemgplocaaX Go.Proofs.Ytiikhhemgplocaa.F
set_option linter.unusedVariables false
set_option linter.unusedSimpArgs false
theorem div_one (n:Int):Rat.divInt n 1=(n:Rat):=by
  rw [Rat.divInt_eq_div,show ((1:Int):Rat)=1 from rfl];grind
theorem pc_small {n:Nat} {f:Nat} {t:Int} (hf:1≤f∧f≤3) (h:(lim n).length≤f) (h0:0≤t) (h1:t≤1200):pc n t=0:=by
  have hs:=sz_lim hf.1 h
  have hb:(sz n:Int) * t≤192 * 1200:=Int.mul_le_mul (by omega) h1 h0 (by omega)
  unfold pc
  rw [if_neg (by omega),if_neg (by omega),if_neg (by omega)]
theorem plain_ev (n:Nat):power_plain.f (lim n)=some (lim n,false):=by
  have h:=wOf n false (z:=(n:Int)) (by unfold sgn;rw [if_neg (by decide)])
  rw [nat_abs,nat_neg] at h
  unfold power_plain.f
  rw [h];rfl
def lc (r:Rat) (n:Int):Int:=if n < 1∨n > 1200 then 2 else if r.num < 0 then 18 else 0
theorem fLevel {a r:Rat} {n:Int} (ha:Sz 1 a) (hr:Sz 1 r) (hn : -9223372036854775808≤n∧n≤9223372036854775807) :
    Ev (fun k=>power_Level.f k (lim a.num.natAbs) (decide (a.num < 0)) (lim (a.den - 1)) (lim r.num.natAbs) (decide (r.num < 0)) (lim (r.den - 1)) n) (if lc r n=0 then (lim (lvl a r n.toNat).num.natAbs,decide ((lvl a r n.toNat).num < 0),lim ((lvl a r n.toNat).den - 1),0) else ([],false,[],lc r n)) ∧
    (lc r n=0→1≤n∧n≤1200∧0≤r.num∧Sz 9000 (lvl a r n.toNat)):=by
  obtain ⟨a1,a2⟩:=ha
  obtain ⟨r1,r2⟩:=hr
  have l1:=len_one
  have had:=den_pos a
  have hrd:=den_pos r
  by_cases hb:n < 1∨n > 1200
  · have e:lc r n=2:=by unfold lc;rw [if_pos hb]
    rw [e]
    refine ⟨?_,fun h=>by cases h⟩
    have j:Ev (fun k=>power_Level.j0 k n true (lim a.num.natAbs) (decide (a.num < 0)) (lim (a.den - 1)) (lim r.num.natAbs) (decide (r.num < 0)) (lim (r.den - 1))) ([],false,[],2):=by
      refine Ev.unroll ?_
      simp only [power_Level.j0]
      exact Ev.pos (by simp) (Ev.const rfl)
    unfold power_Level.f
    by_cases h1:n < 1
    · exact Ev.pos h1 j
    · refine Ev.neg h1 ?_
      rw [decide_eq_true (by omega)]
      exact j
  have hn1:1≤n∧n≤1200:=by omega
  have start : ∀ {R:List Int×Bool×List Int×Int},Ev (fun k=>power_Level.j0 k n false (lim a.num.natAbs) (decide (a.num < 0)) (lim (a.den - 1)) (lim r.num.natAbs) (decide (r.num < 0)) (lim (r.den - 1))) R→Ev (fun k=>power_Level.f k (lim a.num.natAbs) (decide (a.num < 0)) (lim (a.den - 1)) (lim r.num.natAbs) (decide (r.num < 0)) (lim (r.den - 1)) n) R:=by
    intro R h
    unfold power_Level.f
    refine Ev.neg (by omega) ?_
    rw [decide_eq_false (by omega)]
    exact h
  by_cases hneg:r.num < 0
  · have e:lc r n=18:=by unfold lc;rw [if_neg hb,if_pos hneg]
    rw [e]
    refine ⟨start ?_,fun h=>by cases h⟩
    refine Ev.unroll ?_
    simp only [power_Level.j0]
    exact Ev.neg (by simp) (Ev.bindc (fSign r) (Ev.pos (Int.sign_neg_iff.2 hneg) (Ev.const rfl)))
  have e:lc r n=0:=by unfold lc;rw [if_neg hb,if_neg hneg]
  rw [e,if_pos rfl]
  have hnn : ¬ rsg r < 0:=fun h=>hneg (Int.sign_neg_iff.1 h)
  have htn:(n.toNat:Int)=n:=by omega
  by_cases h0:r=0
  · have hl:lvl a r n.toNat=a / ((n:Int):Rat):=by unfold lvl;rw [if_pos h0,htn]
    have hnsz:Sz 1 ((n:Int):Rat):=sz_int (int1_len (by omega)) (Nat.le_refl 1)
    obtain ⟨q1,q2⟩:=fQuo (p:=a) (q:=((n:Int):Rat)) ⟨a1,a2⟩ hnsz (by decide) (by decide) (cast_ne (by omega))
    rw [hl]
    refine ⟨start ?_,fun _=>⟨hn1.1,hn1.2,by omega,⟨Nat.le_trans q2.1 (by decide),Nat.le_trans q2.2 (by decide)⟩⟩⟩
    refine Ev.unroll ?_
    simp only [power_Level.j0]
    refine Ev.neg (by simp) (Ev.bindc (fSign r) (Ev.neg hnn (Ev.bindc (fSign r) (Ev.pos (rsg_zero.2 h0) ?_))))
    exact Ev.bind (wFrom n (by omega)) (Ev.bindc (fFrom n) (Ev.bind q1 (Ev.const rfl)))
  · have hrn:0 < r.num:=by
      have:r.num≠0:=fun h=>h0 (Rat.num_eq_zero.1 h)
      omega
    have hP:=len_add r.num.natAbs r.den
    have c1:=pc_small (n:=r.num.natAbs + r.den) (f:=2) (t:=n) (by decide) (by omega) (by omega) hn1.2
    have c2:=pc_small (n:=r.den) (f:=1) (t:=n) (by decide) r2 (by omega) hn1.2
    have p1:=dPow (r.num.natAbs + r.den) n (by omega) hn
    have p2:=dPow r.den n (by omega) hn
    rw [c1,if_pos rfl] at p1
    rw [c2,if_pos rfl] at p2
    obtain ⟨_,_,L1⟩:=pow_len c1
    obtain ⟨_,_,L2⟩:=pow_len c2
    obtain ⟨hlt,hlv⟩:=lvl_frac (a:=a) (r:=r) (n:=n.toNat) hrn (by omega)
    have hsub:=sub_ev ((r.num.natAbs + r.den) ^ n.toNat) (r.den ^ n.toNat) (by omega) (by omega)
    rw [if_neg (by omega)] at hsub
    have Lless:=len_mono (Nat.sub_le ((r.num.natAbs + r.den) ^ n.toNat) (r.den ^ n.toNat))
    have m1:=wlen_mul a.num r.num
    have m2:=wlen_mul (a.num * r.num) (((r.num.natAbs + r.den) ^ n.toNat:Nat):Int)
    rw [nat_abs] at m2
    have m3:=len_mul a.den r.den
    have m4:=len_mul (a.den * r.den) ((r.num.natAbs + r.den) ^ n.toNat - r.den ^ n.toNat)
    have hposM:0 < a.den * r.den * ((r.num.natAbs + r.den) ^ n.toNat - r.den ^ n.toNat):=Nat.mul_pos (Nat.mul_pos had hrd) (by omega)
    have hof:=fOfZ (a.num * r.num * (((r.num.natAbs + r.den) ^ n.toNat:Nat):Int)) ((a.den * r.den * ((r.num.natAbs + r.den) ^ n.toNat - r.den ^ n.toNat):Nat):Int) (by omega) (by omega) (by rw [nat_abs];omega)
    rw [hlv,nat_abs,nat_neg] at hof
    have numa:frac_Frac_Num.f (lim a.num.natAbs) (decide (a.num < 0)) (lim (a.den - 1))=some (lim a.num.natAbs,decide (a.num < 0)):=rfl
    have numr:frac_Frac_Num.f (lim r.num.natAbs) (decide (r.num < 0)) (lim (r.den - 1))=some (lim r.num.natAbs,decide (r.num < 0)):=rfl
    have hab:whole_Int_Abs.f (lim r.num.natAbs) (decide (r.num < 0))=some (lim r.num.natAbs):=rfl
    refine ⟨start ?_,fun _=>⟨hn1.1,hn1.2,by omega,?_⟩⟩
    · refine Ev.unroll ?_
      simp only [power_Level.j0]
      refine Ev.neg (by simp) (Ev.bindc (fSign r) (Ev.neg hnn (Ev.bindc (fSign r) (Ev.neg (fun h=>h0 (rsg_zero.1 h)) ?_))))
      refine Ev.bind (fDen (by omega)) (Ev.bindc numr (Ev.bindc hab (Ev.bind (add_lim _ _ (by omega) (by omega)) (Ev.bind p1 (Ev.bind p2 (Ev.pos rfl ?_))))))
      refine Ev.unroll ?_
      simp only [power_Level.j1]
      refine Ev.neg (by simp) (Ev.bind hsub (Ev.bindc numa (Ev.bindc numr (Ev.bind (wMul a.num r.num (by omega) (by omega)) (Ev.bindc (plain_ev _) ?_)))))
      refine Ev.bind (wMulN _ _ (by omega) (by omega)) (Ev.bind (fDen (by omega)) (Ev.bind (mul_lim a.den r.den (by omega) (by omega)) (Ev.bind (mul_lim _ _ (by omega) (by omega)) (Ev.bindc (plain_ev _) ?_))))
      exact Ev.bind hof (Ev.const rfl)
    · rw [← hlv]
      have hM:((a.den * r.den * ((r.num.natAbs + r.den) ^ n.toNat - r.den ^ n.toNat):Nat):Int)≠0:=by omega
      rw [divInt_abs _ _ hM,if_neg (by omega),nat_abs]
      exact mk_size hposM (by omega) (by omega)
theorem rSmall (a b:Int) (ha : -9223372036854775807≤a∧a≤9223372036854775807) (hb : -9223372036854775807≤b∧b≤9223372036854775807) (h0:b≠0):Ev (fun k=>chattelref05_Small.f k a b) (dig (Rat.divInt a b).num.natAbs,decide ((Rat.divInt a b).num < 0),dig (Rat.divInt a b).den):=by
  have la:=int1_len (n:=a) (by omega)
  have lb:=int1_len (n:=b) (by omega)
  have da:=dlen_lim a.natAbs
  have db:=dlen_lim b.natAbs
  unfold chattelref05_Small.f
  exact Ev.bind (r4From a ha) (Ev.bind (r4From b hb) (Ev.bind (r5Of a b h0 (by omega) (by omega)) (Ev.const rfl)))
theorem rLevel {a r:Rat} {n:Nat} (ha:Sz 1 a) (hr:Sz 1 r) (h1:1≤n) (h2:n≤20) (hr0:0≤r.num):Ev (fun k=>chattelref13_Level.f k (dig a.num.natAbs) (decide (a.num < 0)) (dig a.den) (dig r.num.natAbs) (decide (r.num < 0)) (dig r.den) (n:Int)) (dig (lvl a r n).num.natAbs,decide ((lvl a r n).num < 0),dig (lvl a r n).den):=by
  have l1:=len_one
  have s1:Sz 1 ((1:Int):Rat):=sz_int (by show (lim 1).length≤1;exact l1) (Nat.le_refl 1)
  have one:=rSmall 1 1 (by decide) (by decide) (by decide)
  rw [div_one] at one
  unfold chattelref13_Level.f
  by_cases h0:r=0
  · have hl:lvl a r n=a / ((n:Int):Rat):=by unfold lvl;rw [if_pos h0]
    have hs:=rSmall (n:Int) 1 (by omega) (by decide) (by decide)
    rw [div_one] at hs
    have hnsz:Sz 1 ((n:Int):Rat):=sz_int (int1_len (by omega)) (Nat.le_refl 1)
    rw [hl]
    refine Ev.pos (by rw [h0];show ((dig 0).length:Int)=0;rw [dig_zero];rfl) (Ev.bind hs ?_)
    exact Ev.bind (r5Quo (dz_of ha) (dz_of hnsz) (by decide) (by decide) (cast_ne (by omega))) (Ev.const rfl)
  · have hrn:0 < r.num:=by
      have:r.num≠0:=fun h=>h0 (Rat.num_eq_zero.1 h)
      omega
    have hl:lvl a r n=a * r / (((1:Int):Rat) - rp (((1:Int):Rat) / (((1:Int):Rat) + r)) n):=by unfold lvl;rw [if_neg h0];rfl
    have hone:((1:Int):Rat)=1:=rfl
    have hD:((r.den:Int):Rat)≠0:=cast_ne (by have:=den_pos r;omega)
    have hP0:(((r.num.natAbs + r.den:Nat):Int):Rat)≠0:=cast_ne (by have:=den_pos r;omega)
    have hP:(((r.num.natAbs + r.den:Nat):Int):Rat)=(1 + r) * ((r.den:Int):Rat):=by
      rw [show ((r.num.natAbs + r.den:Nat):Int)=r.num + (r.den:Int) by omega,Rat.intCast_add,← scale_num r]
      grind
    have h1r:((1:Int):Rat) + r≠0:=fun e=>hP0 (by rw [hP,← hone,e];grind)
    have hne:((1:Int):Rat) - rp (((1:Int):Rat) / (((1:Int):Rat) + r)) n≠0:=by
      intro e
      have e1:rp (1 / (1 + r)) n=1:=by rw [hone] at e;grind
      have hinv:rp (1 / (1 + r)) n * rp (1 + r) n=1:=by
        rw [hone] at h1r
        rw [← rp_mul,show 1 / (1 + r) * (1 + r)=1 by grind,rp_one]
      rw [e1] at hinv
      have hG:rp (1 + r) n=1:=by grind
      obtain ⟨hlt,_⟩:=lvl_frac (a:=a) (r:=r) (n:=n) hrn h1
      have hpw:((((r.num.natAbs + r.den) ^ n:Nat):Int):Rat)=(((r.den ^ n:Nat):Int):Rat):=by
        rw [Int.natCast_pow,← rp_int,hP,rp_mul,rp_int,← Int.natCast_pow,hG];grind
      have h5:(((((r.num.natAbs + r.den) ^ n:Nat):Int) - ((r.den ^ n:Nat):Int):Int):Rat)=0:=by rw [Rat.intCast_sub,hpw];grind
      exact cast_ne (by omega) h5
    obtain ⟨_,z1⟩:=fAdd s1 hr (by decide) (by decide)
    obtain ⟨_,z2⟩:=fQuo s1 z1 (by decide) (by decide) h1r
    have z3:=rp_sz z2 (by decide) n (by omega)
    have z3':Sz 100 (rp (((1:Int):Rat) / (((1:Int):Rat) + r)) n):=⟨Nat.le_trans z3.1 (by omega),Nat.le_trans z3.2 (by omega)⟩
    obtain ⟨_,z4⟩:=fSub s1 z3' (by decide) (by decide)
    obtain ⟨_,z5⟩:=fMul ha hr (by decide) (by decide)
    rw [hl]
    refine Ev.neg (by have:=dig_nil (n:=r.num.natAbs);omega) (Ev.bind one ?_)
    refine Ev.bind (r5Add (dz_of s1) (dz_of hr) (by decide) (by decide)) (Ev.bind (r5Quo (dz_of s1) (dz_of z1) (by decide) (by decide) h1r) ?_)
    refine Ev.bind (rPow z2 (by decide) n (by omega)) (Ev.bind (r5Sub (dz_of s1) (dz_of z3') (by decide) (by decide)) ?_)
    exact Ev.bind (r5Mul (dz_of ha) (dz_of hr) (by decide) (by decide)) (Ev.bind (r5Quo (dz_of z5) (dz_of z4) (by decide) (by decide) hne) (Ev.const rfl))
end Go.Proofs.YtiikhhemgplocaaM
end

section
namespace Go.Proofs.Ytiikhhemgplocaa.Pure
open Go.RowKit Go.Proofs.Ytiikhhemgplocaa.F Go.Proofs.YtiikhhemgplocaaW.PrintWords Go.Proofs.YtiikhhemgplocaaW.PrintLast Go.Proofs.YtiikhhemgplocaaM
set_option linter.unusedVariables false
theorem li32 {x:Int} (h:(Lit.int .i32 x).wf=true) : -2147483648≤x∧x≤2147483647:=by
  simp [Lit.wf,IntKind.min,IntKind.max,IntKind.signed,IntKind.bits] at h
  omega
theorem li16 {x:Int} (h:(Lit.int .i16 x).wf=true) : -32768≤x∧x≤32767:=by
  simp [Lit.wf,IntKind.min,IntKind.max,IntKind.signed,IntKind.bits] at h
  omega
theorem li64 {x:Int} (h:(Lit.int .i64 x).wf=true) : -9223372036854775808≤x∧x≤9223372036854775807:=by
  simp [Lit.wf,IntKind.min,IntKind.max,IntKind.signed,IntKind.bits] at h
  omega
theorem levels_step {a r:Rat} {t:Int} {L:List Int} {n:Int} {i:Nat} (ha:Sz 1 a) (hr:Sz 1 r) (ht : -9223372036854775808≤t∧t≤9223372036854775807) (hi:(i:Int) < n) (hl:(i:Int) < (L.length:Int)) (hrd:rd L (i:Int)=t)
    (h:Ev (fun k=>chattellaw13_PowerLevels.l0 k L n (wrap64 ((i:Int) + 1)) (lim a.num.natAbs) (decide (a.num < 0)) (lim (a.den - 1)) (dig a.num.natAbs) (decide (a.num < 0)) (dig a.den) (lim r.num.natAbs) (decide (r.num < 0)) (lim (r.den - 1)) (dig r.num.natAbs) (decide (r.num < 0)) (dig r.den)) true) :
    Ev (fun k=>chattellaw13_PowerLevels.l0 k L n (i:Int) (lim a.num.natAbs) (decide (a.num < 0)) (lim (a.den - 1)) (dig a.num.natAbs) (decide (a.num < 0)) (dig a.den) (lim r.num.natAbs) (decide (r.num < 0)) (lim (r.den - 1)) (dig r.num.natAbs) (decide (r.num < 0)) (dig r.den)) true:=by
  obtain ⟨q1,q2⟩:=fLevel ha hr ht
  have j3 : ∀ {y:List Int×Bool×List Int},(lc r t=0→y=(lim (lvl a r t.toNat).num.natAbs,decide ((lvl a r t.toNat).num < 0),lim ((lvl a r t.toNat).den - 1))) →
      Ev (fun k=>chattellaw13_PowerLevels.j3 k t (lc r t) L n (i:Int) false (lim a.num.natAbs) (decide (a.num < 0)) (lim (a.den - 1)) (dig a.num.natAbs) (decide (a.num < 0)) (dig a.den) (lim r.num.natAbs) (decide (r.num < 0)) (lim (r.den - 1)) (dig r.num.natAbs) (decide (r.num < 0)) (dig r.den) y.1 y.2.1 y.2.2) true:=by
    intro y hy
    refine Ev.unroll ?_
    simp only [chattellaw13_PowerLevels.j3]
    refine Ev.neg (by decide) ?_
    by_cases c:lc r t=0
    · obtain ⟨t1,t2,r0,hs⟩:=q2 c
      obtain rfl:=hy c
      refine Ev.pos c ?_
      by_cases h20:t≤20
      · have hp:=rLevel ha hr (n:=t.toNat) (by omega) (by omega) r0
        rw [Int.toNat_of_nonneg (by omega)] at hp
        exact Ev.pos h20 (Ev.bind (fPrint hs (by decide)) (Ev.bind hp (Ev.bind (r5Print hs (by decide)) (Ev.pos rfl h))))
      · exact Ev.neg h20 h
    · exact Ev.neg c h
  have j2 : ∀ (y:List Int×Bool×List Int×Int),y=(if lc r t=0 then (lim (lvl a r t.toNat).num.natAbs,decide ((lvl a r t.toNat).num < 0),lim ((lvl a r t.toNat).den - 1),0) else ([],false,[],lc r t)) →
      Ev (fun k=>chattellaw13_PowerLevels.j2 k t y.2.2.2 (lc r t) L n (i:Int) (lim a.num.natAbs) (decide (a.num < 0)) (lim (a.den - 1)) (dig a.num.natAbs) (decide (a.num < 0)) (dig a.den) (lim r.num.natAbs) (decide (r.num < 0)) (lim (r.den - 1)) (dig r.num.natAbs) (decide (r.num < 0)) (dig r.den) y.1 y.2.1 y.2.2.1) true:=by
    rintro y rfl
    refine Ev.unroll ?_
    simp only [chattellaw13_PowerLevels.j2]
    by_cases c:lc r t=0
    · have:=j3 (y:=(lim (lvl a r t.toNat).num.natAbs,decide ((lvl a r t.toNat).num < 0),lim ((lvl a r t.toNat).den - 1))) (fun _=>rfl)
      rw [c] at this
      rw [if_pos c,c]
      exact Ev.pos rfl (Ev.pos rfl this)
    · have:=j3 (y:=([],false,[])) (fun e=>absurd e c)
      rw [if_neg c]
      refine Ev.pos rfl (Ev.neg c (Ev.bindc (x:=(0:Int)) ?_ this))
      have:=fSign 0 (l:=([]:List Int))
      rw [show (0:Rat).num.natAbs=0 from rfl,lim_zero] at this
      exact this
  have hj2:=j2 _ rfl
  refine Ev.unroll ?_
  simp only [chattellaw13_PowerLevels.l0]
  refine Ev.pos hi (Ev.pos (by omega) (Ev.pos hl ?_))
  rw [hrd]
  refine Ev.bind q1 ?_
  by_cases b1:t < 1∨t > 1200
  · have e:lc r t=2:=by unfold lc;rw [if_pos b1]
    have j1:Ev (fun k=>chattellaw13_PowerLevels.j1 k t (if lc r t=0 then (lim (lvl a r t.toNat).num.natAbs,decide ((lvl a r t.toNat).num < 0),lim ((lvl a r t.toNat).den - 1),0) else ([],false,[],lc r t):List Int×Bool×List Int×Int).2.2.2 0 L n (i:Int) true (lim a.num.natAbs) (decide (a.num < 0)) (lim (a.den - 1)) (dig a.num.natAbs) (decide (a.num < 0)) (dig a.den) (lim r.num.natAbs) (decide (r.num < 0)) (lim (r.den - 1)) (dig r.num.natAbs) (decide (r.num < 0)) (dig r.den)
        (if lc r t=0 then (lim (lvl a r t.toNat).num.natAbs,decide ((lvl a r t.toNat).num < 0),lim ((lvl a r t.toNat).den - 1),0) else ([],false,[],lc r t):List Int×Bool×List Int×Int).1 (if lc r t=0 then (lim (lvl a r t.toNat).num.natAbs,decide ((lvl a r t.toNat).num < 0),lim ((lvl a r t.toNat).den - 1),0) else ([],false,[],lc r t):List Int×Bool×List Int×Int).2.1 (if lc r t=0 then (lim (lvl a r t.toNat).num.natAbs,decide ((lvl a r t.toNat).num < 0),lim ((lvl a r t.toNat).den - 1),0) else ([],false,[],lc r t):List Int×Bool×List Int×Int).2.2.1) true:=by
      refine Ev.unroll ?_
      simp only [chattellaw13_PowerLevels.j1]
      rw [e] at hj2 ⊢
      exact Ev.pos (by simp) hj2
    by_cases h1:t < 1
    · exact Ev.pos h1 j1
    · refine Ev.neg h1 ?_
      rw [decide_eq_true (show t > 1200 by omega)]
      exact j1
  · refine Ev.neg (by omega) ?_
    rw [decide_eq_false (show ¬ t > 1200 by omega)]
    refine Ev.unroll ?_
    simp only [chattellaw13_PowerLevels.j1]
    refine Ev.neg (by simp) (Ev.bindc (fSign r) ?_)
    by_cases hn:r.num < 0
    · have e:lc r t=18:=by unfold lc;rw [if_neg b1,if_pos hn]
      rw [e] at hj2 ⊢
      exact Ev.pos (Int.sign_neg_iff.2 hn) hj2
    · have e:lc r t=0:=by unfold lc;rw [if_neg b1,if_neg hn]
      rw [e] at hj2 ⊢
      exact Ev.neg (fun h=>hn (Int.sign_neg_iff.1 h)) hj2
theorem PowerLevels:chattellaw13_PowerLevels.Pure:=by
  intro a b c t wa wb wc wt
  have ha:=li32 wa
  have hb:=li16 wb
  have hc:=li16 wc
  have ht:=li64 wt
  have e1:wrap64 a=a:=by unfold wrap64;omega
  have e2:wrap64 b=b:=by unfold wrap64;omega
  have e4:wrap64 c=c:=by unfold wrap64;omega
  have hm:0≤mx 0 c∧mx 0 c≤32767:=by unfold mx;split <;> omega
  have e3:wrap64 (1 + mx 0 c)=1 + mx 0 c:=by unfold wrap64;omega
  obtain ⟨s1,o1⟩:=of13 a 1 (by omega) (by decide) (by decide)
  obtain ⟨s2,o2⟩:=of13 b (1 + mx 0 c) (by omega) (by omega) (by omega)
  have hm2:0≤mx 0 t % 20∧mx 0 t % 20 < 20:=by omega
  refine Ev.rounds ?_
  unfold chattellaw13_PowerLevels.f
  rw [e1,e2,e4,e3]
  refine Ev.bind o1 (Ev.bind o2 (Ev.bindc (x:=[t,1 + mx 0 t % 20]) rfl ?_))
  refine levels_step (i:=0) (t:=t) (L:=[t,1 + mx 0 t % 20]) (n:=2) s1 s2 ht (by decide) (by show (0:Int) < 2;decide) rfl ?_
  rw [show wrap64 (((0:Nat):Int) + 1)=((1:Nat):Int) by simp [wrap64]]
  refine levels_step (i:=1) (t:=1 + mx 0 t % 20) (L:=[t,1 + mx 0 t % 20]) (n:=2) s1 s2 (by omega) (by decide) (by show (1:Int) < 2;decide) rfl ?_
  refine Ev.unroll ?_
  simp only [chattellaw13_PowerLevels.l0]
  refine Ev.neg (by simp [wrap64]) (Ev.bind wakes13 (Ev.const rfl))
end Go.Proofs.Ytiikhhemgplocaa.Pure
end
