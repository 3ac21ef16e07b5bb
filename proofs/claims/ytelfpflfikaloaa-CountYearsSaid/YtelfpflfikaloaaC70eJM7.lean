-- Joined of: D1 P0 P1 P2 P3 P4 P5 PureCountYears
import Derived.Test.YtelfpflfikaloaaC70eJM6
import Derived.Test.YtelfpflfikaloaaC70eD
import Derived.Test.YtelfpflfikaloaaC70eA1
section
namespace Go.Proofs.YtelfpflfikaloaaM
open Go.RowKit Go.Proofs.YtelfpflfikaloaaW.PrintWords Go.Proofs.YtelfpflfikaloaaW.PrintLast Go.Proofs.YtelfpflfikaloaaW.PrintMore Go.Proofs.YtelfpflfikaloaaX Go.Proofs.Ytelfpflfikaloaa.F
set_option linter.unusedVariables false
set_option linter.unusedSimpArgs false
def addm (y m d n:Int):Int×Int×Int×Int :=
  if Right y m d then (if n < -119988∨n > 119988∨12 * y + m - 1 + n < 12∨(12 * y + m - 1 + n) / 12 > 9999 then (0,0,0,11)
    else ((12 * y + m - 1 + n) / 12,(12 * y + m - 1 + n) % 12 + 1,min d (days ((12 * y + m - 1 + n) / 12) ((12 * y + m - 1 + n) % 12 + 1)),0)) else (0,0,0,11)
theorem add_eq (y m d n:Int) (k:Nat) (hk:1 < k):month_Add.f k y m d n=some (addm y m d n):=by
  obtain ⟨k,rfl⟩ : ∃ j,k=j + 1:=⟨k - 1,by omega⟩
  unfold month_Add.f addm
  rw [date_check y m d _ (by omega),Option.bind_some]
  by_cases h:Right y m d
  · rw [if_pos h,if_pos rfl,if_pos h]
    obtain ⟨hy,hm,hd⟩:=h.in_
    by_cases h1:n < -119988
    · rw [if_pos h1,if_pos (by omega)]
      simp only [month_Add.j0,if_true]
    · rw [if_neg h1]
      by_cases h2:n > 119988
      · rw [decide_eq_true h2,if_pos (by omega)]
        simp only [month_Add.j0,if_true]
      · rw [decide_eq_false h2]
        simp only [month_Add.j0]
        rw [if_neg (by decide),wrap_id (x:=12 * y) (by omega),wrap_id (x:=12 * y + m) (by omega),wrap_id (x:=12 * y + m - 1) (by omega),wrap_id (x:=12 * y + m - 1 + n) (by omega)]
        generalize hq:12 * y + m - 1 + n=q
        by_cases h3:q < 12
        · rw [if_pos h3,if_pos (by omega)]
        · rw [if_neg h3,tdiv_pos_ _ (by omega),tmod_pos_ _ (by omega),wrap_id (x:=q / 12) (by omega),wrap_id (x:=q % 12 + 1) (by omega)]
          by_cases h4:q / 12 > 9999
          · rw [if_pos h4,if_pos (by omega)]
          · rw [if_neg h4,if_neg (by omega),date_days _ _ k (by omega),Option.bind_some,mn_eq]
  · rw [if_neg h,if_neg (by decide),if_neg h]
end Go.Proofs.YtelfpflfikaloaaM
end

section
namespace Go.Proofs.YtelfpflfikaloaaM
open Go.RowKit Go.Proofs.Ytelfpflfikaloaa.F Go.Proofs.YtelfpflfikaloaaW.PrintWords Go.Proofs.YtelfpflfikaloaaW.PrintLast Go.Proofs.YtelfpflfikaloaaW.PrintMore Go.Proofs.YtelfpflfikaloaaX
set_option linter.unusedVariables false
set_option linter.unusedSimpArgs false
def dgs (n:Nat):List Int:=if h:n=0 then [] else dgs (n / 10) ++ [48 + ((n % 10:Nat):Int)]
termination_by n
decreasing_by exact Nat.div_lt_self (Nat.pos_of_ne_zero h) (by decide)
def fx:Nat→Nat→List Int
  | 0,_=>[]
  | m + 1,n=>fx m (n / 10) ++ [48 + ((n % 10:Nat):Int)]
theorem dgs_zero:dgs 0 = []:=by rw [dgs,dif_pos rfl]
theorem dgs_pos {n:Nat} (h:n≠0):dgs n=dgs (n / 10) ++ [48 + ((n % 10:Nat):Int)]:=by rw [dgs,dif_neg h]
theorem fx_len (m:Nat) : ∀ n,(fx m n).length=m:=by
  induction m with
  | zero=>intro n;rfl
  | succ m ih=>intro n;simp [fx,ih]
theorem dgs_len {m:Nat} : ∀ {n:Nat},n < 10 ^ m→(dgs n).length≤m:=by
  induction m with
  | zero =>
    intro n h
    obtain rfl:n=0:=by simpa using h
    rw [dgs_zero];exact Nat.le_refl _
  | succ m ih =>
    intro n h
    by_cases hn:n=0
    · subst hn;rw [dgs_zero];exact Nat.zero_le _
    · rw [dgs_pos hn]
      have:=ih (n:=n / 10) (by rw [Nat.div_lt_iff_lt_mul (by decide)];rwa [Nat.pow_succ] at h)
      simp;omega
theorem dgs_fx (m:Nat) : ∀ n,10 ^ m≤n→dgs n=dgs (n / 10 ^ m) ++ fx m (n % 10 ^ m):=by
  induction m with
  | zero=>intro n _;simp [fx]
  | succ m ih =>
    intro n hn
    have h10:0 < 10 ^ m:=Nat.pow_pos (by decide)
    rw [Nat.pow_succ] at hn
    have h0:n≠0:=by omega
    have h1:10 ^ m≤n / 10:=by rw [Nat.le_div_iff_mul_le (by decide)];exact hn
    rw [dgs_pos h0,ih (n / 10) h1,Nat.div_div_eq_div_mul,Nat.pow_succ,Nat.mul_comm 10 (10 ^ m)]
    have e1:n % (10 ^ m * 10) / 10=n / 10 % 10 ^ m:=by rw [Nat.mul_comm,Nat.mod_mul_right_div_self]
    have e2:n % (10 ^ m * 10) % 10=n % 10:=Nat.mod_mul_left_mod _ _ _
    show _=_ ++ (fx m (n % (10 ^ m * 10) / 10) ++ [48 + ((n % (10 ^ m * 10) % 10:Nat):Int)])
    rw [e1,e2,List.append_assoc]
theorem fx_zero (m:Nat):fx m 0=List.replicate m 48:=by
  induction m with
  | zero=>rfl
  | succ m ih=>show fx m (0 / 10) ++ _=_;rw [Nat.zero_div,ih,List.replicate_succ'];rfl
theorem fx_dgs (m:Nat) : ∀ n,n < 10 ^ m→∃ z,fx m n=List.replicate z 48 ++ dgs n:=by
  induction m with
  | zero =>
    intro n h
    obtain rfl:n=0:=by simpa using h
    exact ⟨0,by rw [dgs_zero];rfl⟩
  | succ m ih =>
    intro n h
    by_cases hn:n=0
    · subst hn;exact ⟨m + 1,by rw [dgs_zero,fx_zero,List.append_nil]⟩
    · obtain ⟨z,hz⟩:=ih (n / 10) (by rw [Nat.div_lt_iff_lt_mul (by decide)];rwa [Nat.pow_succ] at h)
      refine ⟨z,?_⟩
      show fx m (n / 10) ++ _=_
      rw [hz,dgs_pos hn,List.append_assoc]
theorem dgs_head (n:Nat) (h:n≠0) : ∃ c l,dgs n=c :: l∧49≤c∧c≤57:=by
  induction n using Nat.strongRecOn with
  | _ n ih =>
    rw [dgs_pos h]
    by_cases h1:n / 10=0
    · rw [h1,dgs_zero]
      exact ⟨_,[],rfl,by omega,by omega⟩
    · obtain ⟨c,l,e,h2,h3⟩:=ih (n / 10) (Nat.div_lt_self (Nat.pos_of_ne_zero h) (by decide)) h1
      exact ⟨c,_,by rw [e];rfl,h2,h3⟩
theorem dgs_ne {n:Nat} (h:n≠0):1≤(dgs n).length:=by
  obtain ⟨c,l,e,_⟩:=dgs_head n h
  rw [e];simp
def text (n:Nat):ByteArray:=strOfNums (if n=0 then [48] else dgs n)
def bts (l:List Int):List UInt8:=l.map fun n=>UInt8.ofNat n.toNat
theorem str_data (l:List Int):(strOfNums l).data.toList=bts l:=rfl
theorem str_app (a b:List Int):strOfNums (a ++ b)=strOfNums a ++ strOfNums b:=by
  apply ByteArray.ext
  simp [strOfNums]
theorem str_size (l:List Int):(strOfNums l).size=l.length:=by simp [strOfNums,ByteArray.size]
theorem dgs_lim {n m:Nat} (h:(lim n).length≤m):(dgs n).length≤20 * m:=by
  refine dgs_len (Nat.lt_of_lt_of_le (lim_lt n) ?_)
  rw [Nat.pow_mul]
  exact Nat.le_trans (Nat.pow_le_pow_left (by decide) _) (Nat.pow_le_pow_right (by decide) h)
theorem text_size {n m:Nat} (h:(lim n).length≤m):(text n).size≤20 * m + 1:=by
  unfold text
  rw [str_size]
  have:=dgs_lim h
  split
  · simp
  · omega
theorem small_fx (m:Nat) (hm:m≤20) : ∀ (j n k:Nat) (acc:List Int),n < 10 ^ j→acc.length + j=m→j < k→digits_small.l0 k (n:Int) (m:Int) acc=some (fx j n ++ acc):=by
  intro j
  induction j with
  | zero =>
    intro n k acc hn ha hk
    obtain ⟨k,rfl⟩ : ∃ i,k=i + 1:=⟨k - 1,by omega⟩
    obtain rfl:n=0:=by simpa using hn
    unfold digits_small.l0
    rw [if_neg (by omega)]
    rfl
  | succ j ih =>
    intro n k acc hn ha hk
    obtain ⟨k,rfl⟩ : ∃ i,k=i + 1:=⟨k - 1,by omega⟩
    unfold digits_small.l0
    rw [if_pos (by omega),if_pos (by omega)]
    have e1:(n:Int) / 10=((n / 10:Nat):Int):=by omega
    have e2:48 + (n:Int) % 10=48 + ((n % 10:Nat):Int):=by omega
    rw [e1,e2,ih (n / 10) k _ (by rw [Nat.div_lt_iff_lt_mul (by decide)];rwa [Nat.pow_succ] at hn) (by simp;omega) (by omega)]
    show _=some ((fx j (n / 10) ++ [48 + ((n % 10:Nat):Int)]) ++ acc)
    rw [List.append_assoc];rfl
theorem small_dgs : ∀ (j n k:Nat) (acc:List Int),n < 10 ^ j→(n≠0∨1≤acc.length)→acc.length + j≤20→j < k→digits_small.l0 k (n:Int) 1 acc=some (dgs n ++ acc):=by
  intro j
  induction j with
  | zero =>
    intro n k acc hn h0 ha hk
    obtain ⟨k,rfl⟩ : ∃ i,k=i + 1:=⟨k - 1,by omega⟩
    obtain rfl:n=0:=by simpa using hn
    unfold digits_small.l0
    rw [if_neg (by omega),dgs_zero]
    rfl
  | succ j ih =>
    intro n k acc hn h0 ha hk
    obtain ⟨k,rfl⟩ : ∃ i,k=i + 1:=⟨k - 1,by omega⟩
    unfold digits_small.l0
    by_cases hz:n=0
    · subst hz
      rw [if_neg (by omega),dgs_zero]
      rfl
    · rw [if_pos (by omega),if_pos (by omega)]
      have e1:(n:Int) / 10=((n / 10:Nat):Int):=by omega
      have e2:48 + (n:Int) % 10=48 + ((n % 10:Nat):Int):=by omega
      rw [e1,e2,ih (n / 10) k _ (by rw [Nat.div_lt_iff_lt_mul (by decide)];rwa [Nat.pow_succ] at hn) (.inr (by simp)) (by simp;omega) (by omega),dgs_pos hz,List.append_assoc]
      rfl
def U18:Nat:=1000000000000000000
theorem small18 {n:Nat} (h:n < U18):digits_small.f (n:Int) 18=some (strOfNums (fx 18 n)):=by
  unfold digits_small.f
  unfold U18 at h
  rw [if_pos ⟨by omega,by omega⟩,show (18:Int)=((18:Nat):Int) from rfl,small_fx 18 (by decide) 18 n 21 [] h rfl (by decide),List.append_nil]
  rfl
theorem small1 {n:Nat} (h:n < U18) (h0:n≠0):digits_small.f (n:Int) 1=some (strOfNums (dgs n)):=by
  unfold digits_small.f
  have h':=h
  unfold U18 at h
  rw [if_pos ⟨by omega,by omega⟩,small_dgs 18 n 21 [] h' (.inl h0) (by decide) (by decide),List.append_nil]
  rfl
theorem go_snoc (l:List ByteArray) (t:ByteArray):digits_joined.go (l ++ [t]) 0=t.data.toList ++ digits_joined.go l 0:=by
  simp [digits_joined.go]
theorem u18_lim:Ev (fun k=>nat_Of.f k ([1000000000000000000]:List Int)) (lim U18) :=
  of_lim (n:=1) (by rw [vW_one];rfl) (by intro x hx;simp at hx;subst hx;decide) (by decide) (by decide)
theorem lim_small {r:Nat} (h:r < U18):lim r=if r=0 then [] else [(r:Int)]:=by
  unfold U18 at h
  by_cases h0:r=0
  · subst h0;rw [lim_zero];rfl
  · rw [if_neg h0]
    unfold lim
    have e1:r % 18446744073709551616=r:=Nat.mod_eq_of_lt (by omega)
    have e2:r / 18446744073709551616=0:=Nat.div_eq_of_lt (by omega)
    rw [dg_pos W2 h0,show r % W=r from e1,show r / W=0 from e2,dg_zero]
theorem print_l1 {r q:Nat} {gs:List ByteArray} {R:ByteArray} (hr:r < U18)
    (h:Ev (fun k=>digits_Print.l1 k gs (r:Int) (lim r) ((lim r).length:Int) ((lim r).length:Int) (lim q)) R):Ev (fun k=>digits_Print.l1 k gs 0 (lim r) ((lim r).length:Int) 0 (lim q)) R:=by
  rw [lim_small hr] at h ⊢
  by_cases h0:r=0
  · subst h0
    exact h
  · rw [if_neg h0] at h ⊢
    refine Ev.unroll ?_
    simp only [digits_Print.l1]
    refine Ev.pos (by simp) (Ev.pos (by decide) (Ev.pos (by simp) ?_))
    rw [show wrap64 (0 + 1)=(([(r:Int)].length:Nat):Int) by simp [wrap64],show rd [(r:Int)] 0=(r:Int) from rfl]
    exact h
theorem print_l0 (n:Nat) : ∀ gs:List ByteArray,(lim n).length < 1099511627776→gs.length + (dgs n).length < 8796093022208→(digits_joined.go gs 0).length + (dgs n).length≤140737488355328 →
    Ev (fun k=>digits_Print.l0 k gs (lim n)) ⟨(bts (dgs n) ++ digits_joined.go gs 0).toArray⟩:=by
  induction n using Nat.strongRecOn with
  | _ n ih =>
    intro gs hl h1 h2
    refine Ev.unroll ?_
    simp only [digits_Print.l0]
    refine Ev.bindc (zero_eq n) ?_
    by_cases h0:n=0
    · subst h0
      refine Ev.pos rfl ?_
      rw [dgs_zero] at h1 h2 ⊢
      refine Ev.bindc (x:=⟨(digits_joined.go gs 0).toArray⟩) ?_ (Ev.const rfl)
      unfold digits_joined.f
      rw [if_pos ⟨by simp at h1;omega,by simpa using h2⟩]
    · refine Ev.neg (by simp [h0]) ?_
      have hu:U18≠0:=by decide
      have hr:n % U18 < U18:=Nat.mod_lt _ (by decide)
      have hq:n / U18 < n:=Nat.div_lt_self (Nat.pos_of_ne_zero h0) (by decide)
      refine Ev.bind u18_lim ?_
      refine Ev.bind (div_ev n U18 hu hl (Nat.lt_of_le_of_lt (lim_len_le (m:=1) (by decide)) (by decide))) ?_
      have hlr:(lim (n % U18)).length≤1:=lim_len_le (by rw [Nat.pow_one];exact Nat.lt_trans hr (by decide))
      have hlq:=len_mono (Nat.div_le_self n U18)
      refine Ev.bindc (limbs_eq (lim (n % U18)) (by omega)) ?_
      refine print_l1 hr ?_
      refine Ev.unroll ?_
      simp only [digits_Print.l1]
      refine Ev.neg (by omega) ?_
      refine Ev.bindc (zero_eq (n / U18)) ?_
      by_cases hz:n / U18=0
      · have hm:n % U18=n:=by
          have:=Nat.div_add_mod n U18
          rw [hz] at this;omega
        refine Ev.pos (by simp [hz]) ?_
        rw [hm]
        refine Ev.bindc (small1 (by rw [← hm];exact hr) h0) (Ev.pos (by omega) ?_)
        rw [hz]
        have:=ih 0 (by omega) (gs ++ [strOfNums (dgs n)]) (by rw [lim_zero];decide) (by rw [dgs_zero];have:=dgs_ne h0;simp;omega) (by rw [go_snoc,str_data,dgs_zero];simp [bts];omega)
        rw [go_snoc,str_data,dgs_zero] at this
        exact this
      · have hle:U18≤n:=by
          rcases Nat.lt_or_ge n U18 with h|h
          · exact absurd (Nat.div_eq_of_lt h) hz
          · exact h
        have hd:=dgs_fx 18 n hle
        have e18:(10:Nat) ^ 18=U18:=by decide
        rw [e18] at hd
        refine Ev.neg (by simp [hz]) ?_
        refine Ev.bindc (small18 hr) (Ev.pos (by omega) ?_)
        have hdl:(dgs n).length=(dgs (n / U18)).length + 18:=by rw [hd,List.length_append,fx_len]
        have:=ih (n / U18) hq (gs ++ [strOfNums (fx 18 (n % U18))]) (by omega) (by simp;omega) (by rw [go_snoc,str_data];simp [bts,fx_len];omega)
        rw [go_snoc,str_data] at this
        rw [hd]
        have e:bts (dgs (n / U18) ++ fx 18 (n % U18)) ++ digits_joined.go gs 0=bts (dgs (n / U18)) ++ (bts (fx 18 (n % U18)) ++ digits_joined.go gs 0):=by
          simp [bts]
        rw [e]
        exact this
theorem dPrint (n:Nat) (hl:(lim n).length≤400000000):Ev (fun k=>digits_Print.f k (lim n)) (text n):=by
  unfold digits_Print.f text
  refine Ev.bindc (zero_eq n) ?_
  by_cases h0:n=0
  · rw [if_pos h0]
    exact Ev.pos (by simp [h0]) (Ev.const rfl)
  · rw [if_neg h0]
    refine Ev.neg (by simp [h0]) ?_
    have:=dgs_lim hl
    have h:=print_l0 n [] (by omega) (by simp;omega) (by simp [digits_joined.go];omega)
    have e:(⟨(bts (dgs n) ++ digits_joined.go [] 0).toArray⟩:ByteArray)=strOfNums (dgs n):=by
      simp [digits_joined.go,bts,strOfNums]
    rw [e] at h
    exact h
theorem fx_add (a b:Nat) : ∀ n,fx (a + b) n=fx a (n / 10 ^ b) ++ fx b n:=by
  induction b with
  | zero=>intro n;simp [fx]
  | succ b ih =>
    intro n
    show fx (a + b) (n / 10) ++ _=_
    rw [ih (n / 10),Nat.div_div_eq_div_mul,Nat.pow_succ,Nat.mul_comm 10 (10 ^ b),List.append_assoc]
    rfl
theorem fx_mod (m:Nat) : ∀ n,fx m (n % 10 ^ m)=fx m n:=by
  induction m with
  | zero=>intro n;rfl
  | succ m ih =>
    intro n
    have e1:n % (10 ^ m * 10) / 10=n / 10 % 10 ^ m:=by rw [Nat.mul_comm,Nat.mod_mul_right_div_self]
    have e2:n % (10 ^ m * 10) % 10=n % 10:=Nat.mod_mul_left_mod _ _ _
    show fx m (n % 10 ^ (m + 1) / 10) ++ [48 + ((n % 10 ^ (m + 1) % 10:Nat):Int)]=fx m (n / 10) ++ _
    rw [Nat.pow_succ,e1,e2,ih]
theorem bt_str (xs:List Int) (i:Nat) (h:i < xs.length):bt (strOfNums xs) (i:Int)=(((xs.getD i 0).toNat % 256:Nat):Int):=by
  unfold bt
  have hs:(i:Int).toNat < (strOfNums xs).size:=by rw [str_size,Int.toNat_natCast];exact h
  rw [dif_pos hs]
  simp [strOfNums,ByteArray.getElem_eq_getElem_data,List.getD,h]
theorem str_extract (a b:List Int):(strOfNums (a ++ b)).extract a.length (strOfNums (a ++ b)).size=strOfNums b:=by
  apply ByteArray.ext
  rw [str_size,ByteArray.data_extract]
  apply Array.toList_inj.1
  simp [strOfNums]
  rw [List.take_of_length_le (by simp)]
theorem size_ok {j r:Nat} (hj:j≤4) (hr:r < 4611686018427387000):1 + (j + r)≤9223372036854775807:=by omega
theorem dig_step (m:Nat) (h:m < 10000):wrap64 (48 + Int.tmod (m:Int) 10) % 256=48 + ((m % 10:Nat):Int)∧wrap64 (Int.tdiv (m:Int) 10)=((m / 10:Nat):Int):=by
  rw [tmod_pos (by omega),tdiv_pos (by omega)]
  unfold wrap64
  omega
theorem rprint_l2 (z:Nat) (c:Int) (l:List Int) (hc:49≤c∧c≤57) (hz:z + l.length < 4611686018427387904) : ∀ t i:Nat,i + t=z →
    Ev (fun k=>chattelref01_Print.l2 k (strOfNums (List.replicate z 48 ++ c :: l)) (i:Int)) (strOfNums (c :: l)):=by
  have hlen:(List.replicate z (48:Int) ++ c :: l).length=z + l.length + 1:=by simp;omega
  intro t
  induction t with
  | zero =>
    intro i hi
    obtain rfl:i=z:=by omega
    refine Ev.unroll ?_
    simp only [chattelref01_Print.l2]
    refine Ev.pos (by omega) (Ev.pos (by rw [str_size,hlen];omega) ?_)
    have hb:=bt_str (List.replicate i (48:Int) ++ c :: l) i (by rw [hlen];omega)
    have hg:(List.replicate i (48:Int) ++ c :: l).getD i 0=c:=by simp [List.getD]
    rw [hg] at hb
    rw [hb]
    refine Ev.neg (by omega) (Ev.pos (by rw [str_size,hlen];omega) (Ev.const ?_))
    have:=str_extract (List.replicate i (48:Int)) (c :: l)
    rw [List.length_replicate] at this
    rw [Int.toNat_natCast,this]
  | succ t ih =>
    intro i hi
    refine Ev.unroll ?_
    simp only [chattelref01_Print.l2]
    refine Ev.pos (by omega) (Ev.pos (by rw [str_size,hlen];omega) ?_)
    have hb:=bt_str (List.replicate z (48:Int) ++ c :: l) i (by rw [hlen];omega)
    have hg:(List.replicate z (48:Int) ++ c :: l).getD i 0=48:=by
      rw [List.getD_eq_getElem?_getD,List.getElem?_append_left (by simp;omega),List.getElem?_replicate,if_pos (by omega)]
      rfl
    rw [hg] at hb
    rw [hb]
    refine Ev.pos rfl ?_
    have hw:wrap64 ((i:Int) + 1)=((i + 1:Nat):Int):=by unfold wrap64;omega
    rw [hw]
    exact ih (i + 1) (by omega)
theorem rprint_l1 (x0:List Int) (i:Int) (d:Nat) (hd:d < 10000) (rest:List Int) (hr:rest.length < 4611686018427387000) {R:ByteArray}
    (h:Ev (fun k=>chattelref01_Print.l0 k x0 (strOfNums (fx 4 d ++ rest)) (wrap64 (i + 1))) R) : ∀ t j:Nat,j + t=4 →
    Ev (fun k=>chattelref01_Print.l1 k x0 (strOfNums (fx j d ++ rest)) i ((d / 10 ^ j:Nat):Int) (j:Int)) R:=by
  intro t
  induction t with
  | zero =>
    intro j hj
    obtain rfl:j=4:=by omega
    refine Ev.unroll ?_
    simp only [chattelref01_Print.l1]
    exact Ev.neg (by omega) h
  | succ t ih =>
    intro j hj
    have hj4:j≤4:=by omega
    have hj5:j + 1 + t=4:=by omega
    refine Ev.unroll ?_
    simp only [chattelref01_Print.l1]
    refine Ev.pos (by omega) ?_
    have hdj:d / 10 ^ j < 10000:=Nat.lt_of_le_of_lt (Nat.div_le_self _ _) hd
    obtain ⟨e1,e2⟩:=dig_step (d / 10 ^ j) hdj
    rw [Nat.div_div_eq_div_mul,← Nat.pow_succ] at e2
    have e3:wrap64 ((j:Int) + 1)=((j + 1:Nat):Int):=by unfold wrap64;omega
    rw [e1,e2,e3]
    have e4:strOfNums [48 + ((d / 10 ^ j % 10:Nat):Int)] ++ strOfNums (fx j d ++ rest)=strOfNums (fx (j + 1) d ++ rest):=by
      rw [← str_app,← List.append_assoc,Nat.add_comm j 1,fx_add 1 j d]
      rfl
    refine Ev.bindc (x:=[48 + ((d / 10 ^ j % 10:Nat):Int)]) rfl (Ev.pos ?_ ?_)
    · rw [str_size,str_size,List.length_append,fx_len,List.length_singleton];exact size_ok hj4 hr
    · rw [e4]
      exact ih (j + 1) hj5
theorem rprint_l0 (n:Nat) (h0:n≠0) (hl:(dig n).length≤1000000000000) : ∀ t i:Nat,i + t=(dig n).length →
    Ev (fun k=>chattelref01_Print.l0 k (dig n) (strOfNums (fx (4 * i) n)) (i:Int)) (text n):=by
  intro t
  induction t with
  | zero =>
    intro i hi
    refine Ev.unroll ?_
    simp only [chattelref01_Print.l0]
    refine Ev.neg (by omega) ?_
    have hn:n < 10 ^ (4 * i):=by
      have:=dig_lt n
      rw [Nat.pow_mul]
      rw [show i=(dig n).length by omega]
      exact this
    obtain ⟨z,hz⟩:=fx_dgs (4 * i) n hn
    obtain ⟨c,l,e,h1,h2⟩:=dgs_head n h0
    have hlen:z + (dgs n).length=4 * i:=by
      have:=congrArg List.length hz
      rw [fx_len,List.length_append,List.length_replicate] at this
      omega
    rw [e] at hz hlen
    rw [hz]
    have:=rprint_l2 z c l ⟨h1,h2⟩ (by simp at hlen;omega) z 0 (by omega)
    unfold text
    rw [if_neg h0,e]
    exact this
  | succ t ih =>
    intro i hi
    refine Ev.unroll ?_
    simp only [chattelref01_Print.l0]
    refine Ev.pos (by omega) (Ev.pos (by omega) ?_)
    have hd:rd (dig n) (i:Int)=((n / 10000 ^ i % 10000:Nat):Int):=by
      unfold rd
      rw [Int.toNat_natCast]
      exact dg_getD D2 n i
    rw [hd]
    have e10:(10000:Nat) ^ i=10 ^ (4 * i):=by rw [Nat.pow_mul]
    have h4:fx 4 (n / 10000 ^ i % 10000)=fx 4 (n / 10 ^ (4 * i)):=by
      rw [← fx_mod 4 (n / 10 ^ (4 * i)),e10]
    have hw:wrap64 ((i:Int) + 1)=((i + 1:Nat):Int):=by unfold wrap64;omega
    have:=rprint_l1 (dig n) (i:Int) (n / 10000 ^ i % 10000) (Nat.mod_lt _ (by decide)) (fx (4 * i) n) (by rw [fx_len];omega) (R:=text n) (by
      rw [h4,← fx_add 4 (4 * i) n,hw,show 4 + 4 * i=4 * (i + 1) by omega]
      exact ih (i + 1) (by omega)) 4 0 (by omega)
    rw [Nat.pow_zero,Nat.div_one] at this
    exact this
theorem rPrint (n:Nat) (hl:(dig n).length≤1000000000000):Ev (fun k=>chattelref01_Print.f k (dig n)) (text n):=by
  unfold chattelref01_Print.f
  by_cases h0:n=0
  · refine Ev.pos (by have:=dig_nil.2 h0;omega) (Ev.const ?_)
    unfold text
    rw [if_pos h0];rfl
  · refine Ev.neg (fun h=>h0 (dig_nil.1 (by omega))) ?_
    exact rprint_l0 n h0 hl (dig n).length 0 (by omega)
def wText (z:Int):ByteArray:=if z < 0 then (⟨#[45]⟩:ByteArray) ++ text z.natAbs else text z.natAbs
def fText (q:Rat):ByteArray:=if q.den=1 then wText q.num else (wText q.num ++ (⟨#[47]⟩:ByteArray)) ++ text q.den
theorem ba_one (c:UInt8) (t:ByteArray):((⟨#[c]⟩:ByteArray) ++ t).size=1 + t.size:=by rw [ByteArray.size_append];rfl
theorem ba_slash (t:ByteArray):(t ++ (⟨#[47]⟩:ByteArray)).size=t.size + 1:=by rw [ByteArray.size_append];rfl
theorem wText_size {z:Int} {m:Nat} (h:(lim z.natAbs).length≤m):(wText z).size≤20 * m + 2:=by
  have:=text_size h
  unfold wText
  split
  · rw [ba_one];omega
  · omega
theorem wPrint (z:Int) (h:(lim z.natAbs).length≤400000000):Ev (fun k=>whole_Int_Print.f k (lim z.natAbs) (decide (z < 0))) (wText z):=by
  have hs:=text_size h
  unfold whole_Int_Print.f wText
  by_cases hz:z < 0
  · rw [if_pos hz]
    refine Ev.pos (decide_eq_true hz) ?_
    exact Ev.bind (dPrint _ h) (Ev.pos (by omega) (Ev.const rfl))
  · rw [if_neg hz]
    refine Ev.neg (by simpa using hz) ?_
    exact Ev.bind (dPrint _ h) (Ev.const rfl)
theorem fPrint {n:Nat} {q:Rat} (hq:Sz n q) (hn:n≤100000000):Ev (fun k=>frac_Frac_Print.f k (lim q.num.natAbs) (decide (q.num < 0)) (lim (q.den - 1))) (fText q):=by
  obtain ⟨h1,h2⟩:=hq
  have hd:=den_pos q
  have hw:=wText_size h1
  have ht:=text_size h2
  unfold frac_Frac_Print.f fText
  refine Ev.bindc (zero_eq (q.den - 1)) ?_
  by_cases h:q.den=1
  · rw [if_pos h]
    refine Ev.pos (decide_eq_true (by omega)) ?_
    exact Ev.bind (wPrint _ (by omega)) (Ev.const rfl)
  · rw [if_neg h]
    refine Ev.neg (by rw [decide_eq_false (by omega)];decide) ?_
    refine Ev.bind (wPrint _ (by omega)) (Ev.pos (by omega) ?_)
    refine Ev.bind (fDen (by omega)) ?_
    refine Ev.bind (dPrint _ (by omega)) (Ev.pos (by rw [ba_slash];omega) (Ev.const rfl))
theorem r4Print (z:Int) (h:(lim z.natAbs).length≤400000000):Ev (fun k=>chattelref04_Print.f k (dig z.natAbs) (decide (z < 0))) (wText z):=by
  have hs:=text_size h
  have hl:=dlen_lim z.natAbs
  unfold chattelref04_Print.f wText
  refine Ev.bind (rPrint _ (by omega)) ?_
  by_cases hz:z < 0
  · rw [if_pos hz]
    exact Ev.pos (decide_eq_true hz) (Ev.pos (by omega) (Ev.const rfl))
  · rw [if_neg hz]
    exact Ev.neg (by simpa using hz) (Ev.const rfl)
theorem dig_is_one {d:Nat} (h:d≠1) (hl:((dig d).length:Int)=1) : ¬ rd (dig d) 0=1:=by
  intro e
  have hl':(dig d).length=1:=by omega
  have hv:=dig_v d
  have:dig d = [1]:=by
    match hx:dig d,hl' with
    | [c],_ =>
      rw [hx] at e
      have:c=1:=e
      rw [this]
  rw [this] at hv
  simp [vD,vl] at hv
  omega
theorem r5Print {n:Nat} {q:Rat} (hq:Sz n q) (hn:n≤100000000):Ev (fun k=>chattelref05_Print.f k (dig q.num.natAbs) (decide (q.num < 0)) (dig q.den)) (fText q):=by
  obtain ⟨h1,h2⟩:=hq
  have hd:=den_pos q
  have hw:=wText_size h1
  have ht:=text_size h2
  have hl:=dlen_lim q.den
  unfold chattelref05_Print.f fText
  refine Ev.bind (r4Print _ (by omega)) ?_
  by_cases h:q.den=1
  · rw [if_pos h,h,← dig_one]
    exact Ev.pos (by decide) (Ev.pos (by decide) (Ev.pos (by decide) (Ev.const rfl)))
  · rw [if_neg h]
    have last:Ev (fun k=>(chattelref01_Print.f k (dig q.den)).bind fun t=>if (wText q.num).size + 1≤9223372036854775807 then (if (wText q.num ++ (⟨#[47]⟩:ByteArray)).size + t.size≤9223372036854775807 then (some ((wText q.num ++ (⟨#[47]⟩:ByteArray)) ++ t)) else none) else none) ((wText q.num ++ (⟨#[47]⟩:ByteArray)) ++ text q.den) :=
      Ev.bind (rPrint _ (by omega)) (Ev.pos (by omega) (Ev.pos (by rw [ba_slash];omega) (Ev.const rfl)))
    by_cases hc:((dig q.den).length:Int)=1
    · exact Ev.pos hc (Ev.pos (by omega) (Ev.neg (dig_is_one h hc) last))
    · exact Ev.neg hc last
theorem r4Neg (z:Int):chattelref04_Neg.f (dig z.natAbs) (decide (z < 0))=some (dig (-z).natAbs,decide (-z < 0)):=by
  unfold chattelref04_Neg.f
  rw [rOf (z := -z) _ _ ?_]
  · rfl
  · unfold sgn
    by_cases h:z < 0
    · rw [decide_eq_true h,if_neg (by decide)];omega
    · rw [decide_eq_false h,if_pos (by decide)];omega
theorem r5Of (z t:Int) (ht:t≠0) (lz:(dig z.natAbs).length≤100000000) (ld:(dig t.natAbs).length≤100000000) :
    Ev (fun k=>chattelref05_Of.f k (dig z.natAbs) (decide (z < 0)) (dig t.natAbs) (decide (t < 0))) (dig (Rat.divInt z t).num.natAbs,decide ((Rat.divInt z t).num < 0),dig (Rat.divInt z t).den):=by
  have hd:0 < t.natAbs:=by omega
  rw [divInt_abs z t ht]
  unfold chattelref05_Of.f
  by_cases h:t < 0
  · rw [if_pos h]
    refine Ev.pos (decide_eq_true h) ?_
    exact Ev.bindc (r4Neg z) (Ev.bind (rMake (-z) _ hd (by rw [Int.natAbs_neg];exact lz) ld) (Ev.const rfl))
  · rw [if_neg h]
    refine Ev.neg (by simpa using h) ?_
    exact Ev.bind (rMake z _ hd lz ld) (Ev.const rfl)
theorem r4From (n:Int) (h : -9223372036854775807≤n∧n≤9223372036854775807):Ev (fun k=>chattelref04_From.f k n) (dig n.natAbs,decide (n < 0)):=by
  unfold chattelref04_From.f
  by_cases hn:n < 0
  · refine Ev.pos hn ?_
    have e:wrap64 (-n)=(n.natAbs:Int):=by unfold wrap64;omega
    rw [e]
    refine Ev.bind (Small_ev n.natAbs (by omega)) (Ev.bindc (rOf (z:=n) _ _ ?_) (Ev.const rfl))
    unfold sgn
    rw [if_pos rfl];omega
  · refine Ev.neg hn ?_
    have e:n=(n.natAbs:Int):=by omega
    have hs:=Small_ev n.natAbs (by omega)
    rw [← e] at hs
    refine Ev.bind hs (Ev.bindc (rOf (z:=n) _ _ ?_) (Ev.const rfl))
    unfold sgn
    rw [if_neg (by decide)];omega
end Go.Proofs.YtelfpflfikaloaaM
end

section
namespace Go.Proofs.Ytelfpflfikaloaa.Pure
open Go.RowKit Go.Proofs.Ytelfpflfikaloaa.F Go.Proofs.YtelfpflfikaloaaW.PrintWords Go.Proofs.YtelfpflfikaloaaW.PrintLast Go.Proofs.YtelfpflfikaloaaM
set_option linter.unusedVariables false
set_option linter.unusedSimpArgs false
theorem small_ev (n:Int) (h:0≤n∧n≤255):Ev (fun k=>chattelref05_Small.f k n 1) (dig (n:Rat).num.natAbs,decide ((n:Rat).num < 0),dig (n:Rat).den):=by
  have la:(lim n.natAbs).length≤1:=lim_len_le (by rw [W_one];omega)
  have lb:=len_one
  have da:=dlen_lim n.natAbs
  have db:=dlen_lim 1
  have e:Rat.divInt n 1=(n:Rat):=by
    rw [Rat.divInt_eq_div,show ((1:Int):Rat)=1 from rfl];grind
  have h5:=r5Of n 1 (by decide) (by omega) (by show (dig 1).length≤100000000;omega)
  rw [e] at h5
  unfold chattelref05_Small.f
  exact Ev.bind (r4From n (by omega)) (Ev.bind (r4From 1 (by decide)) (Ev.bind h5 (Ev.const rfl)))
theorem yf_whole {y n:Int} (h1:1≤y∧y≤9999) (h2:1≤y + n∧y + n≤9999):yf 2 y 1 1 (y + n) 1 1=(n:Rat):=by
  unfold yf
  rw [if_neg (by decide),if_neg (by decide),actQ_acc (right_first h1) (right_first h2)]
  unfold acc
  rw [Int.sub_self,Int.sub_self,Rat.zero_mkRat,Rat.zero_mkRat,Rat.intCast_add]
  grind
theorem yf_thirty {y n:Int}:yf 0 y 1 1 (y + n) 1 1=(n:Rat):=by
  unfold yf
  rw [if_pos rfl,show thD y 1 1 (y + n) 1 1=360 * n by unfold thD;(repeat' split) <;> omega,Rat.mkRat_eq_div,Rat.intCast_mul]
  have:((360:Nat):Rat)=360:=rfl
  rw [this]
  have:((360:Int):Rat)=360:=rfl
  rw [this]
  grind
theorem text_day:(fText (mkRat 1 365)).toList=([49,47,51,54,53]:List UInt8):=by decide +kernel
theorem text_month:(fText (mkRat 30 360)).toList=([49,47,49,50]:List UInt8):=by decide +kernel
theorem month_on {y m d:Int} (h:Right y m d) (hy:y≤9700) : ∃ Y M D,addm y m (mn d 28) 1=(Y,M,D,0)∧D=mn d 28∧Right y m D∧Right Y M D∧1≤D∧D≤28∧12 * Y + M=12 * y + m + 1:=by
  obtain ⟨a1,a2,a3,a4⟩:=h.in_
  have hdm:=dm_bd y m
  have hd:=days_in a1 a2
  have hD:1≤mn d 28∧mn d 28≤28:=by rw [mn_eq];omega
  obtain ⟨D,eD⟩ : ∃ D,D=mn d 28:=⟨_,rfl⟩
  rw [← eD] at hD ⊢
  have h0:Right y m D:=by
    unfold Right
    rw [hd]
    omega
  obtain ⟨Y,eY⟩ : ∃ Y,(12 * y + m) / 12=Y:=⟨_,rfl⟩
  obtain ⟨M,eM⟩ : ∃ M,(12 * y + m) % 12 + 1=M:=⟨_,rfl⟩
  have hY:1≤Y∧Y≤9999:=by omega
  have hM:1≤M∧M≤12:=by omega
  have hdm2:=dm_bd Y M
  have hd2:=days_in hY hM
  refine ⟨Y,M,D,?_,rfl,h0,?_,hD.1,hD.2,by omega⟩
  · unfold addm
    rw [if_pos h0,show 12 * y + m - 1 + 1=12 * y + m by omega,eY,eM,if_neg (by omega),hd2,Int.min_eq_left (by omega)]
  · unfold Right
    rw [hd2]
    omega
theorem years_j0 {y m d:Int} (h:Right y m d) (hy:y≤9700):Ev (fun k=>chattellaw11_CountYears.j0 k false y m d) true:=by
  obtain ⟨Y,M,D,e,eD,h0,h2,hD1,hD2,rel⟩:=month_on h hy
  have b0:=h0.in_
  have b2:=h2.in_
  have ht:thD y m D Y M D=30:=by
    unfold thD
    rw [if_neg (by omega),if_neg (by omega)]
    omega
  have ho:num y m D≤num Y M D:=by
    by_cases c:y=Y
    · subst c
      exact Int.le_of_lt (num_month h0 h2 (by omega))
    · exact Int.le_of_lt (num_year h0 h2 (by omega))
  have hf:=yf_ev (b:=0) (by decide) h0 h2 ho
  have hq:yf 0 y m D Y M D=mkRat 30 360:=by
    unfold yf
    rw [if_pos rfl,ht]
  have hp:=fPrint hf.2 (by decide)
  have tm:(fText (yf 0 y m D Y M D)).toList=([49,47,49,50]:List UInt8):=by rw [hq];exact text_month
  clear hq
  generalize yf 0 y m D Y M D=q at *
  refine Ev.unroll ?_
  simp only [chattellaw11_CountYears.j0]
  rw [← eD] at e ⊢
  refine Ev.neg (by decide) (Ev.bind (Ev.lt 1 fun k hk=>(add_eq _ _ _ _ k hk).trans (congrArg some e)) (Ev.bind hf.1 (Ev.bind wakes11c (Ev.pos rfl (Ev.pos rfl (Ev.bind hp (Ev.pos tm ?_)))))))
  exact Ev.bind (a:=0) (Ev.lt 0 fun k hk=>by rw [date_check _ _ _ k hk,if_pos h2]) (Ev.const rfl)
theorem CountYears:chattellaw11_CountYears.Pure:=by
  intro a b c n _ _ _ w
  have hw:=u8_of w
  have hA:=made_right a b c 9700 (by decide) (by decide)
  have mA:=make_eq a b c 9700 (by decide) (by decide)
  generalize made a b c 9700=A at *
  obtain ⟨y,m,d⟩:=A
  simp only at hA
  obtain ⟨hR,hy⟩:=hA
  obtain ⟨a1,a2,a3,a4⟩:=hR.in_
  have hb:1≤y + n∧y + n≤9999:=by omega
  have f1:=right_first a1
  have f2:=right_first hb
  have ho:num y 1 1≤num (y + n) 1 1:=by
    rw [first_num,first_num]
    have:=ahead_mono (y:=y) (z:=y + n) a1.1 (by omega)
    omega
  have n1:=num_top hR
  have hn:=(num_in hR).2.1
  have hm:=ahead_mono (y:=y + 1) (z:=9999) (by omega) (by omega)
  have ha9:aheadOf 9999=3651694:=by decide
  obtain ⟨y1,mm,d1,h3,h4,h5⟩:=further (a:=1) hR (by omega)
  have q2:=yf_ev (b:=2) (by decide) f1 f2 ho
  have q0:=yf_ev (b:=0) (by decide) f1 f2 ho
  have q1:=yf_ev (b:=1) (by decide) hR h3 (by omega)
  have x1:yf 1 y m d y1 mm d1=mkRat 1 365:=by
    unfold yf
    rw [if_neg (by decide),if_pos rfl,h4]
    congr 1
    omega
  rw [yf_whole a1 hb] at q2
  rw [yf_thirty] at q0
  rw [x1] at q1
  have p2:=fPrint q2.2 (by decide)
  have p1:=fPrint q1.2 (by decide)
  have r2:=r5Print q2.2 (by decide)
  have cc:=fCmpS q0.2 q2.2 (by decide) (by decide)
  rw [rsg_zero.2 Rat.sub_self] at cc
  have e1:wrap64 n=n:=wrap_id (by omega)
  have e2:wrap64 (y + n)=y + n:=wrap_id (by omega)
  refine Ev.rounds ?_
  unfold chattellaw11_CountYears.f
  refine Ev.bind (Ev.lt 2 fun k hk=>mA k hk) ?_
  simp only
  rw [e1,e2]
  refine Ev.bind q2.1 (Ev.bind q0.1 (Ev.bind (Ev.lt 20200 fun k hk=>h5 k hk) (Ev.bind q1.1 (Ev.pos rfl (Ev.pos rfl (Ev.pos rfl (Ev.bind p2 (Ev.bind (small_ev n hw) (Ev.bind r2 (Ev.pos rfl (Ev.bind cc (Ev.pos rfl (Ev.bind p1 ?_)))))))))))))
  have e3:((fText (mkRat 1 365)).toList != ([49,47,51,54,53]:List UInt8))=false:=by rw [text_day];decide
  rw [e3]
  exact years_j0 hR hy
end Go.Proofs.Ytelfpflfikaloaa.Pure
end
