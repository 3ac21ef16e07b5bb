-- Joined of: M0 M1 E0 D0 D1a D3 D6 D6b D2c D8 M2
import Derived.Test.YtakidmbnkkhojaaGreatCd5eWMore
import Derived.Test.YtakidmbnkkhojaaGreatCd5eD
import Derived.Laws.Bits64b
section
namespace Go.Proofs.YtakidmbnkkhojaaGreatM
open Go.RowKit Go.Proofs.YtakidmbnkkhojaaGreatW.PrintWords Go.Proofs.YtakidmbnkkhojaaGreatW.PrintLast Go.Proofs.YtakidmbnkkhojaaGreatW.PrintMore
set_option linter.unusedVariables false
set_option linter.unusedSimpArgs false
def wf (B:Int) (l:List Int):Prop:=∀ x ∈ l,0≤x∧x < B
def vl (B:Int):List Int→Int
  | []=>0
  | x :: xs=>x + B * vl B xs
theorem wf_nil (B:Int):wf B []:=fun x h=>by cases h
theorem wf_cons {B x:Int} {l:List Int}:wf B (x :: l) ↔ (0≤x∧x < B)∧wf B l:=by
  unfold wf
  simp only [List.mem_cons,forall_eq_or_imp]
theorem wf_append {B:Int} {a b:List Int} (ha:wf B a) (hb:wf B b):wf B (a ++ b):=by
  intro x hx
  rcases List.mem_append.1 hx with h|h
  · exact ha x h
  · exact hb x h
theorem wf_take {B:Int} {l:List Int} (h:wf B l) (n:Nat):wf B (l.take n):=fun x hx=>h x (List.mem_of_mem_take hx)
theorem wf_drop {B:Int} {l:List Int} (h:wf B l) (n:Nat):wf B (l.drop n):=fun x hx=>h x (List.mem_of_mem_drop hx)
theorem wf_set {B:Int} {l:List Int} (h:wf B l) (n:Nat) {x:Int} (hx:0≤x∧x < B):wf B (l.set n x):=by
  intro y hy
  rcases List.mem_or_eq_of_mem_set hy with h1|h1
  · exact h y h1
  · rw [h1];exact hx
theorem wf_replicate {B:Int} (hB:0 < B) (n:Nat):wf B (List.replicate n 0):=by
  intro x hx
  rw [List.eq_of_mem_replicate hx]
  omega
theorem wf_getD {B:Int} {l:List Int} (hB:0 < B) (h:wf B l) (i:Nat):0≤l.getD i 0∧l.getD i 0 < B:=by
  rw [List.getD_eq_getElem?_getD]
  rcases Nat.lt_or_ge i l.length with hi|hi
  · rw [List.getElem?_eq_getElem hi]
    exact h _ (List.getElem_mem hi)
  · rw [List.getElem?_eq_none hi]
    exact ⟨Int.le_refl 0,hB⟩
theorem vl_append (B:Int) (a b:List Int):vl B (a ++ b)=vl B a + B ^ a.length * vl B b:=by
  induction a with
  | nil=>simp [vl]
  | cons x a ih =>
    simp only [List.cons_append,vl,ih,List.length_cons,Int.pow_succ]
    grind
theorem vl_nonneg {B:Int} (hB:0 < B) {l:List Int} (h:wf B l):0≤vl B l:=by
  induction l with
  | nil=>exact Int.le_refl 0
  | cons x l ih =>
    obtain ⟨h1,h2⟩:=wf_cons.1 h
    have:=Int.mul_nonneg (Int.le_of_lt hB) (ih h2)
    simp only [vl]
    omega
theorem vl_lt {B:Int} (hB:0 < B) {l:List Int} (h:wf B l):vl B l < B ^ l.length:=by
  induction l with
  | nil=>simp [vl]
  | cons x l ih =>
    obtain ⟨h1,h2⟩:=wf_cons.1 h
    have h3:=ih h2
    have h4:B * (vl B l + 1)≤B * B ^ l.length:=Int.mul_le_mul_of_nonneg_left (by omega) (Int.le_of_lt hB)
    simp only [vl,List.length_cons,Int.pow_succ]
    rw [Int.mul_comm (B ^ l.length) B]
    rw [Int.mul_add,Int.mul_one] at h4
    omega
theorem vl_replicate (B:Int) (n:Nat):vl B (List.replicate n 0)=0:=by
  induction n with
  | zero=>rfl
  | succ n ih=>simp [List.replicate_succ,vl,ih]
theorem vl_take_succ (B:Int) (l:List Int) (i:Nat):vl B (l.take (i + 1))=vl B (l.take i) + B ^ i * l.getD i 0:=by
  rcases Nat.lt_or_ge i l.length with hi|hi
  · rw [List.take_succ_eq_append_getElem hi,vl_append,List.length_take,Nat.min_eq_left (Nat.le_of_lt hi),List.getD_eq_getElem?_getD,List.getElem?_eq_getElem hi]
    simp [vl]
  · rw [List.take_of_length_le hi,List.take_of_length_le (by omega),List.getD_eq_getElem?_getD,List.getElem?_eq_none hi]
    simp
theorem vl_take_ge (B:Int) (l:List Int) (i:Nat) (h:l.length≤i):vl B (l.take i)=vl B l:=by rw [List.take_of_length_le h]
theorem getD_set_self (l:List Int) (i:Nat) (x d:Int) (h:i < l.length):(l.set i x).getD i d=x:=by
  rw [List.getD_eq_getElem?_getD,List.getElem?_set_self h]
  rfl
theorem getD_set_ne (l:List Int) (i j:Nat) (x d:Int) (h:i≠j):(l.set i x).getD j d=l.getD j d:=by
  rw [List.getD_eq_getElem?_getD,List.getElem?_set_ne h,List.getD_eq_getElem?_getD]
theorem vl_set (B:Int) (l:List Int) (i:Nat) (x:Int) (h:i < l.length):vl B (l.set i x)=vl B l + B ^ i * (x - l.getD i 0):=by
  induction l generalizing i with
  | nil=>simp at h
  | cons y l ih =>
    cases i with
    | zero =>
      simp only [List.set_cons_zero,vl,List.getD_cons_zero,Int.pow_zero]
      omega
    | succ i =>
      simp only [List.set_cons_succ,vl,List.getD_cons_succ,Int.pow_succ]
      rw [ih i (by simpa using h)]
      grind
def dg (B n:Nat):List Int:=if h:n=0∨B < 2 then [] else ((n % B:Nat):Int) :: dg B (n / B)
termination_by n
decreasing_by exact Nat.div_lt_self (by omega) (by omega)
theorem dg_zero (B:Nat):dg B 0 = []:=by rw [dg];simp
theorem dg_pos {B n:Nat} (hB:2≤B) (hn:n≠0):dg B n=((n % B:Nat):Int) :: dg B (n / B):=by
  rw [dg,dif_neg (by omega)]
theorem dg_wf {B:Nat} (hB:2≤B) (n:Nat):wf (B:Int) (dg B n):=by
  induction n using Nat.strongRecOn with
  | _ n ih =>
    by_cases h:n=0
    · subst h;rw [dg_zero];exact wf_nil _
    · rw [dg_pos hB h]
      have:=Nat.mod_lt n (show 0 < B by omega)
      exact wf_cons.2 ⟨by omega,ih _ (Nat.div_lt_self (by omega) (by omega))⟩
theorem dg_vl {B:Nat} (hB:2≤B) (n:Nat):vl (B:Int) (dg B n)=n:=by
  induction n using Nat.strongRecOn with
  | _ n ih =>
    by_cases h:n=0
    · subst h;rw [dg_zero];rfl
    · rw [dg_pos hB h]
      simp only [vl]
      rw [ih _ (Nat.div_lt_self (by omega) (by omega)),← Int.natCast_mul,← Int.natCast_add]
      congr 1
      exact Nat.mod_add_div n B
theorem dg_of {B:Nat} (hB:2≤B) {l:List Int} (h:wf (B:Int) l) (hl : ∀ (hne:l≠[]),l.getLast hne≠0):dg B (vl (B:Int) l).toNat=l:=by
  induction l with
  | nil=>simp [vl,dg_zero]
  | cons x l ih =>
    obtain ⟨h1,h2⟩:=wf_cons.1 h
    have hv:=vl_nonneg (B:=(B:Int)) (by omega) h2
    have ih':=ih h2 (fun hne=>by
      have:=hl (List.cons_ne_nil x l)
      rwa [List.getLast_cons hne] at this)
    obtain ⟨X,rfl⟩:=Int.eq_ofNat_of_zero_le h1.1
    obtain ⟨V,hV⟩:=Int.eq_ofNat_of_zero_le hv
    rw [hV] at ih'
    simp only [Int.toNat_natCast] at ih'
    have e1:(vl (B:Int) ((X:Int) :: l)).toNat=X + B * V:=by
      simp only [vl,hV]
      omega
    have hX:X < B:=by omega
    have hne:X + B * V≠0:=by
      intro h0
      have hX0:X=0:=by omega
      have hV0:V=0:=by
        have h3:B * V=0:=by omega
        rcases Nat.mul_eq_zero.1 h3 with h4|h4
        · omega
        · exact h4
      subst hV0
      rw [dg_zero] at ih'
      subst ih'
      have:=hl (List.cons_ne_nil _ _)
      simp at this
      omega
    rw [e1,dg_pos hB hne,Nat.add_mul_mod_self_left,Nat.mod_eq_of_lt hX,Nat.add_mul_div_left _ _ (by omega),Nat.div_eq_of_lt hX,Nat.zero_add,ih']
theorem dg_len_le {B:Nat} (hB:2≤B) {n m:Nat} (h:n < B ^ m):(dg B n).length≤m:=by
  induction m generalizing n with
  | zero =>
    have:n=0:=by simpa using h
    subst this
    rw [dg_zero]
    exact Nat.le_refl 0
  | succ m ih =>
    by_cases h0:n=0
    · subst h0;rw [dg_zero];exact Nat.zero_le _
    · rw [dg_pos hB h0,List.length_cons]
      have:n / B < B ^ m:=by
        rw [Nat.div_lt_iff_lt_mul (by omega)]
        rwa [Nat.pow_succ] at h
      have:=ih this
      omega
theorem dg_lt {B:Nat} (hB:2≤B) (n:Nat):n < B ^ (dg B n).length:=by
  have h:=vl_lt (B:=(B:Int)) (by omega) (dg_wf hB n)
  rw [dg_vl hB n,← Int.natCast_pow] at h
  exact Int.ofNat_lt.1 h
theorem dg_le {B:Nat} (hB:2≤B) {n:Nat} (h:n≠0):B ^ ((dg B n).length - 1)≤n:=by
  rcases Nat.lt_or_ge n (B ^ ((dg B n).length - 1)) with h1|h1
  · have h2:=dg_len_le hB h1
    have h3:(dg B n).length≠0:=by rw [dg_pos hB h];simp
    omega
  · exact h1
theorem dg_getD {B:Nat} (hB:2≤B) (n i:Nat):(dg B n).getD i 0=((n / B ^ i % B:Nat):Int):=by
  induction i generalizing n with
  | zero =>
    by_cases h:n=0
    · subst h;simp [dg_zero]
    · rw [dg_pos hB h,List.getD_cons_zero,Nat.pow_zero,Nat.div_one]
  | succ i ih =>
    by_cases h:n=0
    · subst h;simp [dg_zero]
    · rw [dg_pos hB h,List.getD_cons_succ,ih,Nat.div_div_eq_div_mul,Nat.pow_succ,Nat.mul_comm B]
theorem wrap_id {x:Int} (h : -9223372036854775808≤x∧x≤9223372036854775807):wrap64 x=x:=by unfold wrap64;omega
theorem u64_wrap (x:Int):IntKind.u64.wrap x=x % 18446744073709551616:=by
  first|rfl|simp [IntKind.wrap,IntKind.bits]
theorem u64_id {x:Int} (h:0≤x∧x < 18446744073709551616):IntKind.u64.wrap x=x:=by rw [u64_wrap];omega
theorem mn_eq (a b:Int):mn a b=min a b:=by unfold mn;split <;> omega
theorem mx_eq (a b:Int):mx a b=max a b:=by unfold mx;split <;> omega
theorem rd_nat (l:List Int) (i:Nat):rd l (i:Int)=l.getD i 0:=by unfold rd;rw [Int.toNat_natCast]
end Go.Proofs.YtakidmbnkkhojaaGreatM
end

section
namespace Go.Proofs.YtakidmbnkkhojaaGreatM
open Go.RowKit Go.Proofs.YtakidmbnkkhojaaGreatW.PrintWords Go.Proofs.YtakidmbnkkhojaaGreatW.PrintLast Go.Proofs.YtakidmbnkkhojaaGreatW.PrintMore Go.Proofs.YtakidmbnkkhojaaGreatX Go.Proofs.YtakidmbnkkhojaaGreat.F
set_option linter.unusedVariables false
set_option linter.unusedSimpArgs false
theorem Ev.unroll {α:Type} {g:Nat→Option α} {r:α} (h:Ev (fun k=>g (k + 1)) r):Ev g r:=Ev.step (fun _=>rfl) h
theorem Ev.pos {α:Type} {a b:Nat→Option α} {r:α} {c:Prop} [Decidable c] (h:c) (e:Ev a r):Ev (fun k=>if c then a k else b k) r:=by
  simp only [if_pos h];exact e
theorem Ev.neg {α:Type} {a b:Nat→Option α} {r:α} {c:Prop} [Decidable c] (h : ¬ c) (e:Ev b r):Ev (fun k=>if c then a k else b k) r:=by
  simp only [if_neg h];exact e
theorem Ev.const {α:Type} {a:Option α} {r:α} (h:a=some r):Ev (fun _=>a) r:=⟨0,fun _ _=>h⟩
theorem Ev.bindc {α β:Type} {a:Option α} {x:α} {f:Nat→α→Option β} {r:β} (h:a=some x) (e:Ev (fun k=>f k x) r):Ev (fun k=>a.bind (f k)) r:=by
  subst h;exact e
theorem Ev.lt {α:Type} {g:Nat→Option α} {r:α} (n:Nat) (h : ∀ k,n < k→g k=some r):Ev g r:=⟨n + 1,fun k hk=>h k hk⟩
theorem clone_eq (l:List Int) (h:l.length < 17592186044416):slices_Clone_uint64_uint64.f l=some l:=by
  unfold slices_Clone_uint64_uint64.f
  simp [h]
theorem limbs_eq (l:List Int) (h:l.length < 17592186044416):nat_Nat_Limbs.f l=some l:=by
  unfold nat_Nat_Limbs.f
  rw [clone_eq l h]
  rfl
abbrev W:Nat:=18446744073709551616
theorem W2:2≤W:=by decide
def lim (n:Nat):List Int:=dg W n
abbrev wfW (l:List Int):Prop:=wf ((W:Nat):Int) l
abbrev vW (l:List Int):Int:=vl ((W:Nat):Int) l
theorem W_pos:(0:Int) < ((W:Nat):Int):=by decide
theorem W_int:((W:Nat):Int)=18446744073709551616:=rfl
theorem trimmed_l0 (x:List Int) (hx:wfW x) (hl:x.length < 4611686018427387904) : ∀ n:Nat,n≤x.length→vW (x.take n)=vW x→∀ k,n < k→nat_trimmed.l0 k x (n:Int)=some (lim (vW x).toNat):=by
  intro n
  induction n with
  | zero =>
    intro hn hv k hk
    obtain ⟨k,rfl⟩ : ∃ m,k=m + 1:=⟨k - 1,by omega⟩
    simp only [nat_trimmed.l0]
    rw [if_neg (by omega),if_pos (by omega),if_pos (by omega)]
    have:vW x=0:=by rw [← hv];rfl
    rw [this]
    show some (x.take 0)=some (dg W 0)
    rw [dg_zero]
    rfl
  | succ n ih =>
    intro hn hv k hk
    obtain ⟨k,rfl⟩ : ∃ m,k=m + 1:=⟨k - 1,by omega⟩
    have e1:wrap64 (((n + 1:Nat):Int) - 1)=(n:Int):=by rw [wrap_id (by omega)];omega
    simp only [nat_trimmed.l0]
    rw [if_pos (by omega),e1,if_pos (by omega),if_pos (by omega),rd_nat]
    by_cases h0:x.getD n 0=0
    · rw [if_pos h0]
      refine ih (by omega) ?_ k (by omega)
      rw [← hv]
      show vl _ _=vl _ _
      rw [vl_take_succ,h0,Int.mul_zero,Int.add_zero]
    · rw [if_neg h0,if_pos (by omega),if_pos (by omega),Int.toNat_natCast]
      have h1:=dg_of W2 (wf_take hx (n + 1)) (fun hne=>by
        have h2:(x.take (n + 1)).getLast hne=x.getD n 0:=by
          have h3:(x.take (n + 1)).length=n + 1:=by rw [List.length_take];omega
          rw [List.getLast_eq_getElem,List.getElem_take,List.getD_eq_getElem?_getD,List.getElem?_eq_getElem (by omega)]
          simp [h3]
        rw [h2];exact h0)
      rw [← h1]
      show some (lim _)=_
      rw [show vl ((W:Nat):Int) (x.take (n + 1))=vW x from hv]
theorem trimmed_ev (x:List Int) (hx:wfW x) (hl:x.length < 4611686018427387904):Ev (fun k=>nat_trimmed.f k x) (lim (vW x).toNat):=by
  refine Ev.lt x.length (fun k hk=>?_)
  unfold nat_trimmed.f
  exact trimmed_l0 x hx hl x.length (Nat.le_refl _) (vl_take_ge _ _ _ (Nat.le_refl _)) k hk
theorem of_ev (l:List Int) (hx:wfW l) (h:l.length < 17592186044416):Ev (fun k=>nat_Of.f k l) (lim (vW l).toNat):=by
  unfold nat_Of.f
  rw [clone_eq l h]
  exact Ev.bind (f:=fun _ t=>some t) (trimmed_ev l hx (by omega)) (Ev.now _)
theorem lim_wf (n:Nat):wfW (lim n):=dg_wf W2 n
theorem lim_v (n:Nat):vW (lim n)=n:=dg_vl W2 n
theorem zero_eq (n:Nat):nat_Nat_Zero.f (lim n)=some (decide (n=0)):=by
  unfold nat_Nat_Zero.f
  congr 1
  by_cases h:n=0
  · subst h;unfold lim;rw [dg_zero];rfl
  · unfold lim;rw [dg_pos W2 h];simp [h];omega
theorem limb_eq (l:List Int) (i:Nat):nat_Nat_limb.f l (i:Int)=some (l.getD i 0):=by
  unfold nat_Nat_limb.f
  by_cases h:l.length≤i
  · rw [if_pos (by omega),List.getD_eq_getElem?_getD,List.getElem?_eq_none h];rfl
  · rw [if_neg (by omega),if_pos (by omega),if_pos (by omega),rd_nat]
theorem add64 {x y c:Int} (hx:0≤x) (hy:0≤y) (hc:0≤c):add64s x y c=(x + y + c) % 18446744073709551616∧add64c x y c=(x + y + c) / 18446744073709551616:=by
  unfold add64s add64c
  omega
theorem add64_b {x y c:Int} (hx:0≤x∧x < 18446744073709551616) (hy:0≤y∧y < 18446744073709551616) (hc:0≤c∧c≤1) :
    (0≤add64s x y c∧add64s x y c < 18446744073709551616)∧(0≤add64c x y c∧add64c x y c≤1)∧add64s x y c + 18446744073709551616 * add64c x y c=x + y + c:=by
  obtain ⟨h1,h2⟩:=add64 hx.1 hy.1 hc.1
  rw [h1,h2]
  omega
theorem sub64_b {x y c:Int} (hx:0≤x∧x < 18446744073709551616) (hy:0≤y∧y < 18446744073709551616) (hc:0≤c∧c≤1) :
    (0≤sub64d x y c∧sub64d x y c < 18446744073709551616)∧(0≤sub64b x y c∧sub64b x y c≤1)∧sub64d x y c - 18446744073709551616 * sub64b x y c=x - y - c:=by
  unfold sub64d sub64b
  split <;> omega
structure AddInv (a b x:List Int) (c:Int) (n i:Nat):Prop where
  w:wfW x
  len:x.length=n
  c0:0≤c∧c≤1
  z : ∀ j,i≤j→x.getD j 0=0
  v:vW x + c * ((W:Nat):Int) ^ i=vW (a.take i) + vW (b.take i)
theorem add_l0 (a b:List Int) (ha:wfW a) (hb:wfW b) (n:Nat) (hn:n < 4611686018427387904) (hn2:a.length + 1≤n∧b.length + 1≤n) :
    ∀ d i:Nat,i + d=n→∀ x c,AddInv a b x c n i→Ev (fun k=>nat_Nat_Add.l0 k x c (n:Int) (i:Int) a b) (lim (vW a + vW b).toNat):=by
  intro d
  induction d with
  | zero =>
    intro i hi x c h
    have hi':i=n:=by omega
    subst hi'
    refine Ev.unroll ?_
    simp only [nat_Nat_Add.l0]
    refine Ev.neg (by omega) ?_
    have hv:=h.v
    rw [show vW (a.take i)=vW a from vl_take_ge _ _ _ (by omega),show vW (b.take i)=vW b from vl_take_ge _ _ _ (by omega)] at hv
    have hc:c=0:=by
      have h1:=vl_lt W_pos ha
      have h2:=vl_lt W_pos hb
      have h3:=vl_nonneg W_pos h.w
      have h4:((W:Nat):Int) ^ a.length≤((W:Nat):Int) ^ (i - 1):=by
        rw [← Int.natCast_pow,← Int.natCast_pow];exact Int.ofNat_le.2 (Nat.pow_le_pow_right (by decide) (by omega))
      have h5:((W:Nat):Int) ^ b.length≤((W:Nat):Int) ^ (i - 1):=by
        rw [← Int.natCast_pow,← Int.natCast_pow];exact Int.ofNat_le.2 (Nat.pow_le_pow_right (by decide) (by omega))
      have h6:((W:Nat):Int) ^ i=((W:Nat):Int) ^ (i - 1) * 18446744073709551616:=by
        rw [show i=(i - 1) + 1 by omega,Int.pow_succ];rfl
      have h7:0≤((W:Nat):Int) ^ (i - 1):=Int.pow_nonneg (by decide)
      rcases Int.le_iff_lt_or_eq.1 h.c0.1 with h8|h8
      · have h9:c=1:=by have:=h.c0.2;omega
        rw [h9,h6] at hv
        simp only [vW] at hv
        omega
      · exact h8.symm
    rw [hc,Int.zero_mul,Int.add_zero] at hv
    rw [← hv]
    exact Ev.bind (f:=fun _ t=>some t) (trimmed_ev x h.w (by rw [h.len];exact hn)) (Ev.now _)
  | succ d ih =>
    intro i hi x c h
    refine Ev.unroll ?_
    simp only [nat_Nat_Add.l0]
    refine Ev.pos (by omega) ?_
    have e1:wrap64 ((i:Int) + 1)=((i + 1:Nat):Int):=by rw [wrap_id (by omega)];omega
    simp only [limb_eq,Option.bind_some,e1,Int.toNat_natCast]
    refine Ev.pos h.c0.2 (Ev.pos (by omega) (Ev.pos (by rw [h.len];omega) ?_))
    have wa:=wf_getD W_pos ha i
    have wb:=wf_getD W_pos hb i
    obtain ⟨s1,s2,s3⟩:=add64_b wa wb h.c0
    refine ih (i + 1) (by omega) _ _ ⟨wf_set h.w i s1,by rw [List.length_set,h.len],s2,fun j hj=>by rw [getD_set_ne _ _ _ _ _ (by omega)];exact h.z j (by omega),?_⟩
    have hv:=h.v
    show vl _ _ + _=vl _ _ + vl _ _
    rw [vl_set _ _ _ _ (by rw [h.len];omega),h.z i (Nat.le_refl i),vl_take_succ,vl_take_succ,Int.pow_succ,Int.sub_zero]
    simp only [vW] at hv
    generalize ((W:Nat):Int) ^ i=p at *
    generalize add64s (a.getD i 0) (b.getD i 0) c=s at *
    generalize add64c (a.getD i 0) (b.getD i 0) c=q at *
    have e2:p * (s + 18446744073709551616 * q)=p * (a.getD i 0 + b.getD i 0 + c):=by rw [s3]
    simp only [W_int] at *
    grind
theorem add_ev (a b:List Int) (ha:wfW a) (hb:wfW b) (la:a.length≤1099511627776) (lb:b.length≤1099511627776):Ev (fun k=>nat_Nat_Add.f k a b) (lim (vW a + vW b).toNat):=by
  unfold nat_Nat_Add.f
  have e1:wrap64 (mx (a.length:Int) (b.length:Int) + 1)=((max a.length b.length + 1:Nat):Int):=by rw [mx_eq,wrap_id (by omega)];omega
  simp only [e1,Int.toNat_natCast,Option.bind_some,List.length_replicate]
  refine Ev.pos (by omega) (Ev.pos (by omega) ?_)
  refine add_l0 a b ha hb (max a.length b.length + 1) (by omega) (by omega) _ 0 (Nat.zero_add _) _ _ ⟨wf_replicate W_pos _,List.length_replicate,by omega,fun j _=>?_,?_⟩
  · rw [List.getD_eq_getElem?_getD,List.getElem?_replicate];split <;> rfl
  · show vl _ _ + _=vl _ _ + vl _ _
    rw [vl_replicate]
    rfl
end Go.Proofs.YtakidmbnkkhojaaGreatM
end

section
namespace Go.Proofs.YtakidmbnkkhojaaGreatM
open Go.RowKit Go.Proofs.YtakidmbnkkhojaaGreatW.PrintWords Go.Proofs.YtakidmbnkkhojaaGreatW.PrintLast Go.Proofs.YtakidmbnkkhojaaGreatW.PrintMore
set_option linter.unusedVariables false
set_option linter.unusedSimpArgs false
theorem u16_of {x:Int} (h:(Lit.int .u16 x).wf=true):0≤x∧x≤65535:=by
  simp [Lit.wf,IntKind.min,IntKind.max,IntKind.signed,IntKind.bits] at h
  exact h
theorem u8_of {x:Int} (h:(Lit.int .u8 x).wf=true):0≤x∧x≤255:=by
  simp [Lit.wf,IntKind.min,IntKind.max,IntKind.signed,IntKind.bits] at h
  exact h
theorem tmod_pos_ {a:Int} (b:Int) (h:0≤a):Int.tmod a b=a % b:=Int.tmod_eq_emod_of_nonneg h
theorem tdiv_pos_ {a:Int} (b:Int) (h:0≤a):Int.tdiv a b=a / b:=Int.tdiv_eq_ediv_of_nonneg h
end Go.Proofs.YtakidmbnkkhojaaGreatM
end

section
namespace Go.Proofs.YtakidmbnkkhojaaGreatM
open Go.RowKit Go.Proofs.YtakidmbnkkhojaaGreatW.PrintWords Go.Proofs.YtakidmbnkkhojaaGreatW.PrintLast Go.Proofs.YtakidmbnkkhojaaGreatW.PrintMore Go.Proofs.YtakidmbnkkhojaaGreatX Go.Proofs.YtakidmbnkkhojaaGreat.F
set_option linter.unusedVariables false
set_option linter.unusedSimpArgs false
def leap (y:Int):Bool:=decide ((y % 4=0∧y % 100≠0)∨y % 400=0)
def dm (y m:Int):Int:=if m=2 then (if leap y=true then 29 else 28) else if m=4∨m=6∨m=9∨m=11 then 30 else 31
def days (y m:Int):Int:=if 1≤y∧y≤9999∧1≤m∧m≤12 then dm y m else 0
def Right (y m d:Int):Prop:=1≤d∧d≤days y m
instance (y m d:Int):Decidable (Right y m d):=inferInstanceAs (Decidable (_∧_))
theorem dm_bd (y m:Int):28≤dm y m∧dm y m≤31:=by unfold dm;repeat' split <;> omega
theorem days_in {y m:Int} (h:1≤y∧y≤9999) (h2:1≤m∧m≤12):days y m=dm y m:=if_pos ⟨h.1,h.2,h2.1,h2.2⟩
theorem days_bd (y m:Int):0≤days y m∧days y m≤31:=by
  unfold days
  have:=dm_bd y m
  split <;> omega
theorem Right.in_ {y m d:Int} (h:Right y m d):(1≤y∧y≤9999)∧(1≤m∧m≤12)∧1≤d∧d≤31:=by
  obtain ⟨h1,h2⟩:=h
  have:=days_bd y m
  unfold days at h2 this
  split at h2
  · rename_i h3
    rw [if_pos h3] at this
    exact ⟨⟨h3.1,h3.2.1⟩,⟨h3.2.2.1,h3.2.2.2⟩,h1,by omega⟩
  · omega
theorem date_leap (y:Int):date_Leap.f y=some (decide (1≤y∧y≤9999) && leap y):=by
  unfold date_Leap.f date_good.f
  by_cases h1:1≤y
  · rw [if_pos h1,Option.bind_some]
    by_cases h2:y≤9999
    · rw [decide_eq_true h2,if_pos rfl,tmod_pos_ _ (by omega),tmod_pos_ _ (by omega),tmod_pos_ _ (by omega)]
      unfold leap
      by_cases a:y % 4=0
      · rw [if_pos a]
        by_cases b:y % 100=0
        · rw [if_pos b]
          by_cases c:y % 400=0 <;> simp [a,b,c,h1,h2]
        · rw [if_neg b]
          simp [a,b,h1,h2]
      · rw [if_neg a]
        have c : ¬ y % 400=0:=by omega
        simp [a,c,h1,h2]
    · rw [decide_eq_false h2,if_neg (by decide)]
      simp [h2]
  · rw [if_neg h1,Option.bind_some,if_neg (by decide)]
    simp [h1]
theorem tab12 {m:Int} (h:1≤m∧m≤12):0≤wrap64 (m - 1)∧wrap64 (m - 1) < 12 ∧
    rd ([31,28,31,30,31,30,31,31,30,31,30,31]:List Int) (wrap64 (m - 1))=if m=2 then 28 else if m=4∨m=6∨m=9∨m=11 then 30 else 31:=by
  have:m=1∨m=2∨m=3∨m=4∨m=5∨m=6∨m=7∨m=8∨m=9∨m=10∨m=11∨m=12:=by omega
  rcases this with h|h|h|h|h|h|h|h|h|h|h|h <;> (subst h;decide +kernel)
theorem date_days (y m:Int) (k:Nat) (hk:0 < k):date_Days.f k y m=some (days y m):=by
  obtain ⟨k,rfl⟩ : ∃ j,k=j + 1:=⟨k - 1,by omega⟩
  unfold date_Days.f date_good.f days
  by_cases h1:1≤y
  · rw [if_pos h1,Option.bind_some]
    by_cases h2:y≤9999
    · rw [decide_eq_true h2,if_pos rfl]
      by_cases h3:m < 1
      · rw [if_pos h3,if_neg (by omega)]
        simp only [date_Days.j0,if_true]
      · rw [if_neg h3]
        by_cases h4:m > 12
        · rw [decide_eq_true h4,if_neg (by omega)]
          simp only [date_Days.j0,if_true]
        · rw [decide_eq_false h4,if_pos ⟨h1,h2,by omega,by omega⟩]
          obtain ⟨t1,t2,t3⟩:=tab12 (m:=m) (by omega)
          simp only [date_Days.j0,date_leap,Option.bind_some,if_pos t1,if_pos t2,t3]
          rw [if_neg (by decide)]
          unfold dm
          by_cases h5:m=2
          · simp only [if_pos h5,decide_eq_true (show 1≤y∧y≤9999 from ⟨h1,h2⟩),Bool.true_and]
            split <;> rfl
          · simp only [if_neg h5]
    · rw [decide_eq_false h2,if_neg (by decide),if_neg (by omega)]
      simp only [date_Days.j0,if_true]
  · rw [if_neg h1,Option.bind_some,if_neg (by decide),if_neg (by omega)]
    simp only [date_Days.j0,if_true]
theorem date_check (y m d:Int) (k:Nat) (hk:0 < k):date_Check.f k y m d=some (if Right y m d then 0 else 11):=by
  unfold date_Check.f
  by_cases h:d < 1
  · rw [if_pos h,if_neg (fun h2:Right y m d=>by have:=h2.1;omega)]
  · rw [if_neg h,date_days y m k hk,Option.bind_some]
    by_cases h2:d > days y m
    · rw [if_pos h2,if_neg (fun h3:Right y m d=>by have:=h3.2;omega)]
    · rw [if_neg h2,if_pos (show Right y m d from ⟨by omega,by omega⟩)]
theorem ref_leap (y:Int) (k:Nat) (hk:0 < k):chattelref09_Leap.f k y=some (decide (1≤y∧y≤9999) && leap y):=by
  obtain ⟨k,rfl⟩ : ∃ j,k=j + 1:=⟨k - 1,by omega⟩
  unfold chattelref09_Leap.f
  by_cases h1:y < 1
  · rw [if_pos h1]
    simp only [chattelref09_Leap.j0,if_true]
    rw [decide_eq_false (by omega)]
    rfl
  · rw [if_neg h1]
    by_cases h2:y > 9999
    · rw [decide_eq_true h2,decide_eq_false (by omega)]
      simp only [chattelref09_Leap.j0,if_true]
      rfl
    · rw [decide_eq_false h2,decide_eq_true (by omega)]
      simp only [chattelref09_Leap.j0]
      rw [if_neg (by decide),tmod_pos_ _ (by omega),tmod_pos_ _ (by omega),tmod_pos_ _ (by omega)]
      unfold leap
      by_cases a:y % 400=0
      · simp [a]
      · rw [if_neg a]
        by_cases b:y % 4=0
        · rw [if_pos b]
          by_cases c:y % 100=0 <;> simp [a,b,c]
        · simp [a,b]
theorem ref_days (y m:Int) (k:Nat) (hk:1 < k):chattelref09_Days.f k y m=some (days y m):=by
  obtain ⟨k,rfl⟩ : ∃ j,k=j + 1:=⟨k - 1,by omega⟩
  unfold chattelref09_Days.f days
  by_cases h1:y < 1
  · rw [if_pos h1,if_neg (by omega)]
    simp only [chattelref09_Days.j0,if_true]
  · rw [if_neg h1]
    by_cases h2:y > 9999
    · rw [if_pos h2,if_neg (by omega)]
      simp only [chattelref09_Days.j0,if_true]
    · rw [if_neg h2]
      by_cases h3:m < 1
      · rw [if_pos h3,if_neg (by omega)]
        simp only [chattelref09_Days.j0,if_true]
      · rw [if_neg h3]
        by_cases h4:m > 12
        · rw [decide_eq_true h4,if_neg (by omega)]
          simp only [chattelref09_Days.j0,if_true]
        · rw [decide_eq_false h4,if_pos ⟨by omega,by omega,by omega,by omega⟩]
          simp only [chattelref09_Days.j0,ref_leap y k (by omega),Option.bind_some,decide_eq_true (show 1≤y∧y≤9999 by omega),Bool.true_and]
          rw [if_neg (by decide)]
          unfold dm
          by_cases h5:m=2
          · simp only [if_pos h5]
            split <;> rfl
          · simp only [if_neg h5]
            by_cases a:m=4
            · simp [a]
            · by_cases b:m=6
              · simp [b]
              · by_cases c:m=9
                · simp [c]
                · by_cases d:m=11
                  · simp [d]
                  · simp [a,b,c,d]
def made (a b c n:Int):Int×Int×Int:=(a % n + 1,b % 12 + 1,c % days (a % n + 1) (b % 12 + 1) + 1)
theorem tmod_fix (a:Int) {n:Int} (hn:0 < n):(if Int.tmod a n < 0 then Int.tmod a n + n else Int.tmod a n)=a % n:=by
  rw [Int.tmod_eq_emod]
  have h1:=Int.emod_nonneg a (show n≠0 by omega)
  have h2:=Int.emod_lt_of_pos a hn
  split <;> split <;> omega
theorem tmod_n {a n:Int} (hn:0 < n) (hm:n≤10000) (h:Int.tmod a n < 0):wrap64 (Int.tmod a n + n)=a % n:=by
  have h1:=tmod_fix a hn
  rw [if_pos h] at h1
  have h2:=Int.emod_nonneg a (show n≠0 by omega)
  have h3:=Int.emod_lt_of_pos a hn
  rw [wrap_id (by omega),h1]
theorem tmod_p {a n:Int} (hn:0 < n) (h : ¬ Int.tmod a n < 0):Int.tmod a n=a % n:=by
  have h1:=tmod_fix a hn
  rw [if_neg h] at h1
  exact h1
theorem make_days (y m c:Int) (k:Nat) (hk:1 < k) (hy:1≤y∧y≤9999) (hm:1≤m∧m≤12) :
    ((chattelref09_Days.f k y m).bind fun t=>if t=0 then (none:Option (Int×Int×Int)) else if Int.tmod c t < 0 then some (y,m,wrap64 (wrap64 (Int.tmod c t + t) + 1)) else some (y,m,wrap64 (Int.tmod c t + 1)))=some (y,m,c % days y m + 1):=by
  rw [ref_days y m k hk,Option.bind_some]
  have h1:=days_in hy hm
  have h2:=dm_bd y m
  generalize days y m=t at *
  rw [if_neg (by omega)]
  have h3:=Int.emod_nonneg c (show t≠0 by omega)
  have h4:=Int.emod_lt_of_pos c (show 0 < t by omega)
  by_cases h:Int.tmod c t < 0
  · rw [if_pos h,tmod_n (by omega) (by omega) h,wrap_id (by omega)]
  · rw [if_neg h,tmod_p (by omega) h,wrap_id (by omega)]
theorem make_eq (a b c n:Int) (hn:0 < n) (hn2:n≤9999) (k:Nat) (hk:2 < k):chattelref09_Make.f k a b c n=some (made a b c n):=by
  obtain ⟨k,rfl⟩ : ∃ j,k=j + 1:=⟨k - 1,by omega⟩
  unfold chattelref09_Make.f
  rw [if_neg (by omega)]
  have h1:=Int.emod_nonneg a (show n≠0 by omega)
  have h2:=Int.emod_lt_of_pos a hn
  have h3:=Int.emod_nonneg b (show (12:Int)≠0 by omega)
  have h4:=Int.emod_lt_of_pos b (show (0:Int) < 12 by omega)
  have hj:chattelref09_Make.j0 (k + 1) (a % n) a b c=some (made a b c n):=by
    simp only [chattelref09_Make.j0]
    rw [wrap_id (x:=a % n + 1) (by omega)]
    by_cases h:Int.tmod b 12 < 0
    · rw [if_pos h,tmod_n (by omega) (by omega) h,wrap_id (x:=b % 12 + 1) (by omega)]
      exact make_days _ _ c k (by omega) (by omega) (by omega)
    · rw [if_neg h,tmod_p (by omega) h,wrap_id (x:=b % 12 + 1) (by omega)]
      exact make_days _ _ c k (by omega) (by omega) (by omega)
  by_cases h:Int.tmod a n < 0
  · rw [if_pos h,tmod_n hn (by omega) h]
    exact hj
  · rw [if_neg h,tmod_p hn h]
    exact hj
theorem made_right (a b c n:Int) (hn:0 < n) (hn2:n≤9999):Right (made a b c n).1 (made a b c n).2.1 (made a b c n).2.2∧(made a b c n).1≤n:=by
  have h1:=Int.emod_nonneg a (show n≠0 by omega)
  have h2:=Int.emod_lt_of_pos a hn
  have h3:=Int.emod_nonneg b (show (12:Int)≠0 by omega)
  have h4:=Int.emod_lt_of_pos b (show (0:Int) < 12 by omega)
  have h5:=days_in (y:=a % n + 1) (m:=b % 12 + 1) (by omega) (by omega)
  have h6:=dm_bd (a % n + 1) (b % 12 + 1)
  unfold made Right
  simp only
  generalize days (a % n + 1) (b % 12 + 1)=t at *
  have h7:=Int.emod_nonneg c (show t≠0 by omega)
  have h8:=Int.emod_lt_of_pos c (show 0 < t by omega)
  omega
theorem ref_right (y m d:Int) (k:Nat) (hk:1 < k):chattelref09_Right.f k y m d=some (decide (Right y m d)):=by
  unfold chattelref09_Right.f
  rw [ref_days y m k hk,Option.bind_some]
  unfold Right
  by_cases h:d ≥ 1
  · rw [if_pos h]
    simp [h]
  · rw [if_neg h]
    simp [h]
def aheadOf (y:Int):Int:=365 * (y - 1) + (y - 1) / 4 - (y - 1) / 100 + (y - 1) / 400
theorem ahead_eq (y:Int) (h:1≤y∧y≤10000):date_ahead.f y=some (aheadOf y):=by
  unfold date_ahead.f aheadOf
  have e0:wrap64 (y - 1)=y - 1:=wrap_id (by omega)
  rw [e0,tdiv_pos_ _ (by omega),tdiv_pos_ _ (by omega),tdiv_pos_ _ (by omega)]
  have hz:0≤y - 1∧y - 1≤9999:=by omega
  clear e0
  generalize y - 1=z at *
  rw [wrap_id (x:=365 * z) (by omega),wrap_id (x:=z / 4) (by omega),wrap_id (x:=z / 100) (by omega),wrap_id (x:=z / 400) (by omega),wrap_id (x:=365 * z + z / 4) (by omega),wrap_id (x:=365 * z + z / 4 - z / 100) (by omega),wrap_id (by omega)]
theorem ahead_bd (y:Int) (h:1≤y∧y≤10000):0≤aheadOf y∧aheadOf y≤3652059:=by unfold aheadOf;omega
def mdays (y:Int):Nat→Int
  | 0=>0
  | t + 1=>mdays y t + days y ((t + 1:Nat):Int)
theorem mdays_bd (y:Int) : ∀ t:Nat,0≤mdays y t∧mdays y t≤31 * t
  | 0=>by simp [mdays]
  | t + 1=>by
    have:=mdays_bd y t
    have:=days_bd y ((t + 1:Nat):Int)
    unfold mdays
    omega
def num (y m d:Int):Int:=aheadOf y + mdays y (m - 1).toNat + d
theorem number_l0 (y d:Int) (M:Nat) (hM:M≤11) (hd:0≤d∧d≤31) (b:Int) (hb:0≤b∧b≤3652059) (r:Nat) : ∀ (t:Nat),t + r=M→∀ k,r + 1 < k →
    date_Number.l0 k (b + mdays y t) ((t + 1:Nat):Int) y ((M + 1:Nat):Int) d=some (b + mdays y M + d,0):=by
  induction r with
  | zero =>
    intro t h k hk
    obtain ⟨k,rfl⟩ : ∃ q,k=q + 1:=⟨k - 1,by omega⟩
    have ht:t=M:=by omega
    subst ht
    have:=mdays_bd y t
    simp only [date_Number.l0]
    rw [if_neg (by omega),wrap_id (by omega)]
  | succ r ih =>
    intro t h k hk
    obtain ⟨k,rfl⟩ : ∃ q,k=q + 1:=⟨k - 1,by omega⟩
    have h1:=mdays_bd y t
    have h2:=days_bd y ((t + 1:Nat):Int)
    have h3:b + mdays y t + days y ((t + 1:Nat):Int)=b + mdays y (t + 1):=by rw [mdays,Int.add_assoc]
    simp only [date_Number.l0]
    rw [if_pos (by omega),date_days y _ k (by omega),Option.bind_some,wrap_id (by omega),wrap_id (x:=((t + 1:Nat):Int) + 1) (by omega),h3]
    exact ih (t + 1) (by omega) k (by omega)
theorem number_eq (y m d:Int) (k:Nat) (hk:14 < k):date_Number.f k y m d=some (if Right y m d then (num y m d,0) else (0,11)):=by
  unfold date_Number.f
  rw [date_check y m d k (by omega),Option.bind_some]
  by_cases h:Right y m d
  · obtain ⟨hy,hm,hd⟩:=h.in_
    rw [if_pos h,if_pos rfl,if_pos h,ahead_eq y (by omega),Option.bind_some]
    obtain ⟨M,hM⟩ : ∃ M:Nat,m=((M + 1:Nat):Int):=⟨(m - 1).toNat,by omega⟩
    have:=number_l0 y d M (by omega) (by omega) (aheadOf y) (ahead_bd y (by omega)) M 0 (by omega) k (by omega)
    rw [mdays,Int.add_zero,← hM] at this
    unfold num
    rw [show (m - 1).toNat=M by omega]
    exact this
  · rw [if_neg h,if_neg (by decide),if_neg h]
theorem num_bd {y m d:Int} (h:Right y m d):1≤num y m d∧num y m d≤4000000:=by
  obtain ⟨hy,hm,hd⟩:=h.in_
  have h1:=ahead_bd y (by omega)
  have h2:=mdays_bd y (m - 1).toNat
  unfold num
  omega
theorem ahead_step (y:Int) (h:1≤y):aheadOf (y + 1)=aheadOf y + (if leap y=true then 366 else 365):=by
  unfold aheadOf leap
  by_cases a:y % 4=0
  · by_cases b:y % 100=0
    · by_cases c:y % 400=0
      · simp only [a,b,c]
        simp
        omega
      · simp only [a,b,c]
        simp
        omega
    · have c : ¬ y % 400=0:=by omega
      simp only [a,b,c]
      simp
      omega
  · have b : ¬ y % 100=0:=by omega
    have c : ¬ y % 400=0:=by omega
    simp only [a,b,c]
    simp
    omega
theorem year_days {y:Int} (h:1≤y∧y≤9999):mdays y 12=(if leap y=true then 366 else 365):=by
  simp only [mdays]
  simp only [days_in h (show 1≤((1:Nat):Int)∧((1:Nat):Int)≤12 by omega),days_in h (show 1≤((2:Nat):Int)∧((2:Nat):Int)≤12 by omega),days_in h (show 1≤((3:Nat):Int)∧((3:Nat):Int)≤12 by omega),days_in h (show 1≤((4:Nat):Int)∧((4:Nat):Int)≤12 by omega),days_in h (show 1≤((5:Nat):Int)∧((5:Nat):Int)≤12 by omega),days_in h (show 1≤((6:Nat):Int)∧((6:Nat):Int)≤12 by omega),days_in h (show 1≤((7:Nat):Int)∧((7:Nat):Int)≤12 by omega),days_in h (show 1≤((8:Nat):Int)∧((8:Nat):Int)≤12 by omega),days_in h (show 1≤((9:Nat):Int)∧((9:Nat):Int)≤12 by omega),days_in h (show 1≤((10:Nat):Int)∧((10:Nat):Int)≤12 by omega),days_in h (show 1≤((11:Nat):Int)∧((11:Nat):Int)≤12 by omega),days_in h (show 1≤((12:Nat):Int)∧((12:Nat):Int)≤12 by omega)]
  cases e:leap y <;> simp [dm,e]
theorem ahead_next {y:Int} (h:1≤y∧y≤9999):aheadOf (y + 1)=aheadOf y + mdays y 12:=by
  rw [ahead_step y h.1,year_days h]
theorem mdays_le (y:Int) (t:Nat) : ∀ s:Nat,mdays y t≤mdays y (t + s)
  | 0=>by simp
  | s + 1=>by
    have h1:=mdays_le y t s
    have h2:=days_bd y ((t + s + 1:Nat):Int)
    rw [show t + (s + 1)=(t + s) + 1 by omega,mdays]
    omega
theorem mdays_mono (y:Int) {t s:Nat} (h:t≤s):mdays y t≤mdays y s:=by
  have:=mdays_le y t (s - t)
  rwa [show t + (s - t)=s by omega] at this
theorem ahead_le (y:Int) (hy:1≤y) : ∀ s:Nat,aheadOf y + 365 * s≤aheadOf (y + s)
  | 0=>by simp
  | s + 1=>by
    have h1:=ahead_le y hy s
    have h2:=ahead_step (y + s) (by omega)
    rw [show y + ((s + 1:Nat):Int)=y + s + 1 by omega,h2]
    split <;> omega
theorem ahead_mono {y z:Int} (hy:1≤y) (h:y≤z):aheadOf y≤aheadOf z:=by
  have:=ahead_le y hy (z - y).toNat
  rw [show y + (((z - y).toNat:Nat):Int)=z by omega] at this
  omega
theorem num_in {y m d:Int} (h:Right y m d):aheadOf y < num y m d∧num y m d≤aheadOf (y + 1)∧num y m d≤aheadOf y + mdays y m.toNat:=by
  obtain ⟨hy,hm,hd⟩:=h.in_
  have h1:=(mdays_bd y (m - 1).toNat).1
  have h2:mdays y m.toNat=mdays y (m - 1).toNat + days y m:=by
    rw [show m.toNat=(m - 1).toNat + 1 by omega,mdays,show (((m - 1).toNat + 1:Nat):Int)=m by omega]
  have h3:=mdays_mono y (show m.toNat≤12 by omega)
  have h4:=ahead_next hy
  have h5:=h.2
  unfold num
  omega
theorem num_top {y m d:Int} (h:Right y m d):1≤num y m d∧num y m d≤3652059:=by
  obtain ⟨hy,hm,hd⟩:=h.in_
  have h1:=num_in h
  have h2:=ahead_bd y (by omega)
  have h3:=ahead_bd (y + 1) (by omega)
  omega
theorem num_year {y m d y2 m2 d2:Int} (h:Right y m d) (h2:Right y2 m2 d2) (hl:y < y2):num y m d < num y2 m2 d2:=by
  obtain ⟨hy,hm,hd⟩:=h.in_
  have a:=num_in h
  have b:=num_in h2
  have c:=ahead_mono (y:=y + 1) (z:=y2) (by omega) (by omega)
  omega
theorem num_month {y m d m2 d2:Int} (h:Right y m d) (h2:Right y m2 d2) (hl:m < m2):num y m d < num y m2 d2:=by
  obtain ⟨hy,hm,hd⟩:=h.in_
  obtain ⟨hy2,hm2,hd2⟩:=h2.in_
  have a:=num_in h
  have c:=mdays_mono y (show m.toNat≤(m2 - 1).toNat by omega)
  have e:num y m2 d2=aheadOf y + mdays y (m2 - 1).toNat + d2:=rfl
  omega
theorem num_day {y m d d2:Int} (hl:d < d2):num y m d < num y m d2:=by unfold num;omega
theorem of_l2 {y:Int} (hy:1≤y∧y≤9999) (r:Nat) : ∀ (t:Nat) (n:Int),t + r=12→1≤n→n + mdays y t≤mdays y 12 →
    ∃ m d,Right y m d∧mdays y (m - 1).toNat + d=mdays y t + n∧∀ x k,r + 2 < k→date_Of.l2 k n y ((t + 1:Nat):Int) x=some (y,m,d,0):=by
  induction r with
  | zero =>
    intro t n h h1 h2
    have:t=12:=by omega
    subst this
    omega
  | succ r ih =>
    intro t n h h1 h2
    have hm:mdays y (t + 1)=mdays y t + days y ((t + 1:Nat):Int):=rfl
    have hd:=days_in hy (m:=((t + 1:Nat):Int)) (by omega)
    have hb:=dm_bd y ((t + 1:Nat):Int)
    have hw:=days_bd y ((t + 1:Nat):Int)
    by_cases hn:n > days y ((t + 1:Nat):Int)
    · obtain ⟨m,d,e1,e2,e3⟩:=ih (t + 1) (n - days y ((t + 1:Nat):Int)) (by omega) (by omega) (by omega)
      refine ⟨m,d,e1,by omega,fun x k hk=>?_⟩
      obtain ⟨k,rfl⟩ : ∃ q,k=q + 1:=⟨k - 1,by omega⟩
      have h3:=mdays_bd y 12
      have h4:=mdays_bd y t
      simp only [date_Of.l2]
      rw [date_days y _ k (by omega),Option.bind_some,if_pos hn,Option.bind_some,wrap_id (by omega),wrap_id (by omega)]
      exact e3 x k (by omega)
    · refine ⟨((t + 1:Nat):Int),n,⟨h1,by omega⟩,?_,fun x k hk=>?_⟩
      · rw [show (((t + 1:Nat):Int) - 1).toNat=t by omega]
      · obtain ⟨k,rfl⟩ : ∃ q,k=q + 1:=⟨k - 1,by omega⟩
        simp only [date_Of.l2]
        rw [date_days y _ k (by omega),Option.bind_some,if_neg hn]
theorem of_j3 {y n:Int} (hy:1≤y∧y≤9999) (h1:aheadOf y < n) (h2:n≤aheadOf (y + 1)) :
    ∃ m d,Right y m d∧num y m d=n∧∀ x k,20 < k→date_Of.j3 k n y 1 x=some (y,m,d,0):=by
  have hs:=ahead_next hy
  obtain ⟨m,d,e1,e2,e3⟩:=of_l2 hy 12 0 (n - aheadOf y) (by omega) (by omega) (by rw [mdays];omega)
  refine ⟨m,d,e1,?_,fun x k hk=>?_⟩
  · rw [mdays] at e2
    unfold num
    omega
  · obtain ⟨k,rfl⟩ : ∃ q,k=q + 1:=⟨k - 1,by omega⟩
    have hb:=ahead_bd y (by omega)
    have hc:=ahead_bd (y + 1) (by omega)
    simp only [date_Of.j3]
    rw [ahead_eq y (by omega),Option.bind_some,wrap_id (by omega)]
    exact e3 x k (by omega)
theorem of_l1 {n:Int} (hn:1≤n∧n≤3652059) (r:Nat) : ∀ y:Int,1≤y→y + r=9999→aheadOf y < n →
    ∃ z m d,Right z m d∧num z m d=n∧∀ x k,r + 30 < k→date_Of.l1 k n y 1 x=some (z,m,d,0):=by
  induction r with
  | zero =>
    intro y h1 h2 h3
    have:y=9999:=by omega
    subst this
    obtain ⟨m,d,e1,e2,e3⟩:=of_j3 (y:=9999) (n:=n) (by omega) h3 (by rw [show aheadOf (9999 + 1)=3652059 by decide];omega)
    refine ⟨9999,m,d,e1,e2,fun x k hk=>?_⟩
    obtain ⟨k,rfl⟩ : ∃ q,k=q + 1:=⟨k - 1,by omega⟩
    simp only [date_Of.l1]
    rw [if_neg (by omega)]
    exact e3 x k (by omega)
  | succ r ih =>
    intro y h1 h2 h3
    by_cases h:aheadOf (y + 1) < n
    · obtain ⟨z,m,d,e1,e2,e3⟩:=ih (y + 1) (by omega) (by omega) h
      refine ⟨z,m,d,e1,e2,fun x k hk=>?_⟩
      obtain ⟨k,rfl⟩ : ∃ q,k=q + 1:=⟨k - 1,by omega⟩
      simp only [date_Of.l1]
      rw [if_pos (by omega),wrap_id (x:=y + 1) (by omega),ahead_eq (y + 1) (by omega),Option.bind_some,if_pos h]
      exact e3 x k (by omega)
    · obtain ⟨m,d,e1,e2,e3⟩:=of_j3 (y:=y) (n:=n) (by omega) h3 (by omega)
      refine ⟨y,m,d,e1,e2,fun x k hk=>?_⟩
      obtain ⟨k,rfl⟩ : ∃ q,k=q + 1:=⟨k - 1,by omega⟩
      simp only [date_Of.l1]
      rw [if_pos (by omega),wrap_id (x:=y + 1) (by omega),ahead_eq (y + 1) (by omega),Option.bind_some,if_neg h]
      exact e3 x k (by omega)
theorem of_l0 {n:Int} (hn:1≤n∧n≤3652059) (r:Nat) : ∀ y:Int,y=r + 1→y≤9999 →
    ∃ z m d,Right z m d∧num z m d=n∧∀ x k,r + 10100 < k→date_Of.l0 k n y 1 x=some (z,m,d,0):=by
  induction r with
  | zero =>
    intro y h1 h2
    have:y=1:=by omega
    subst this
    obtain ⟨z,m,d,e1,e2,e3⟩:=of_l1 hn 9998 1 (by omega) (by omega) (by rw [show aheadOf 1=0 by decide];omega)
    refine ⟨z,m,d,e1,e2,fun x k hk=>?_⟩
    obtain ⟨k,rfl⟩ : ∃ q,k=q + 1:=⟨k - 1,by omega⟩
    simp only [date_Of.l0]
    rw [ahead_eq 1 (by omega),Option.bind_some,show aheadOf 1=0 by decide,if_neg (by omega)]
    exact e3 x k (by omega)
  | succ r ih =>
    intro y h1 h2
    by_cases h:aheadOf y ≥ n
    · obtain ⟨z,m,d,e1,e2,e3⟩:=ih (y - 1) (by omega) (by omega)
      refine ⟨z,m,d,e1,e2,fun x k hk=>?_⟩
      obtain ⟨k,rfl⟩ : ∃ q,k=q + 1:=⟨k - 1,by omega⟩
      simp only [date_Of.l0]
      rw [ahead_eq y (by omega),Option.bind_some,if_pos h,wrap_id (by omega)]
      exact e3 x k (by omega)
    · obtain ⟨z,m,d,e1,e2,e3⟩:=of_l1 hn (9999 - y).toNat y (by omega) (by omega) (by omega)
      refine ⟨z,m,d,e1,e2,fun x k hk=>?_⟩
      obtain ⟨k,rfl⟩ : ∃ q,k=q + 1:=⟨k - 1,by omega⟩
      simp only [date_Of.l0]
      rw [ahead_eq y (by omega),Option.bind_some,if_neg h]
      exact e3 x k (by omega)
theorem of_eq {n:Int} (hn:1≤n∧n≤3652059) : ∃ y m d,Right y m d∧num y m d=n∧∀ k,20200 < k→date_Of.f k n=some (y,m,d,0):=by
  have hq:0≤n * 400 / 146097∧n * 400 / 146097≤10000:=by omega
  obtain ⟨z,m,d,e1,e2,e3⟩:=of_l0 hn (min (n * 400 / 146097 + 1) 9999 - 1).toNat (min (n * 400 / 146097 + 1) 9999) (by omega) (by omega)
  refine ⟨z,m,d,e1,e2,fun k hk=>?_⟩
  obtain ⟨k,rfl⟩ : ∃ q,k=q + 1:=⟨k - 1,by omega⟩
  unfold date_Of.f
  rw [if_neg (by omega),decide_eq_false (by omega)]
  simp only [date_Of.j0]
  rw [if_neg (by decide),wrap_id (x:=n * 400) (by omega),tdiv_pos_ _ (by omega),wrap_id (x:=n * 400 / 146097) (by omega),wrap_id (by omega),mn_eq]
  exact e3 0 k (by omega)
theorem of_none {n:Int} (hn:n < 1∨3652059 < n) (k:Nat) (hk:0 < k):date_Of.f k n=some (0,0,0,11):=by
  obtain ⟨k,rfl⟩ : ∃ q,k=q + 1:=⟨k - 1,by omega⟩
  unfold date_Of.f
  by_cases h:n < 1
  · rw [if_pos h]
    simp only [date_Of.j0,if_true]
  · rw [if_neg h,decide_eq_true (by omega)]
    simp only [date_Of.j0,if_true]
theorem further {y m d a:Int} (h:Right y m d) (ha:1≤num y m d + a∧num y m d + a≤3652059) :
    ∃ y2 m2 d2,Right y2 m2 d2∧num y2 m2 d2=num y m d + a∧∀ k,20200 < k→month_AddDays.f k y m d a=some (y2,m2,d2,0):=by
  obtain ⟨z,q,e,h1,h2,h3⟩:=of_eq ha
  refine ⟨z,q,e,h1,h2,fun k hk=>?_⟩
  have b:=num_top h
  unfold month_AddDays.f
  rw [number_eq y m d k (by omega),Option.bind_some,if_pos h,if_pos rfl,if_neg (by omega),if_neg (by omega),wrap_id (by omega),h3 k hk,Option.bind_some]
theorem further_none {y m d a:Int} (h:Right y m d) (ha:num y m d + a < 1∨3652059 < num y m d + a) (k:Nat) (hk:20200 < k) :
    month_AddDays.f k y m d a=some (0,0,0,11):=by
  have b:=num_top h
  unfold month_AddDays.f
  rw [number_eq y m d k (by omega),Option.bind_some,if_pos h,if_pos rfl]
  by_cases h1:a < -3719628
  · rw [if_pos h1]
  · rw [if_neg h1]
    by_cases h2:a > 3719628
    · rw [if_pos h2]
    · rw [if_neg h2,wrap_id (by omega),of_none ha k (by omega),Option.bind_some]
theorem further_wrong {y m d a:Int} (h : ¬ Right y m d) (k:Nat) (hk:14 < k):month_AddDays.f k y m d a=some (0,0,0,11):=by
  unfold month_AddDays.f
  rw [number_eq y m d k (by omega),Option.bind_some,if_neg h,if_neg (by decide)]
def sgI (a b:Int):Int:=if a < b then -1 else if a > b then 1 else 0
theorem cmpI_d (a b:Int):cmp_Compare_int.f a b=some (sgI a b):=by
  unfold cmp_Compare_int.f cmp_isNaN_int.f sgI
  simp only [bne_self_eq_false,Option.bind_some]
  rw [if_neg (by decide),if_neg (by decide)]
  by_cases h:a < b
  · rw [if_pos h,if_pos h]
  · rw [if_neg h,if_neg h]
    by_cases h2:a > b
    · rw [if_pos h2,if_pos h2]
    · rw [if_neg h2,if_neg h2]
def or3 (a b c:Int):Int:=if a=0 then (if b=0 then c else b) else a
theorem or3_eq (a b c:Int) (k:Nat) (hk:3 < k):cmp_Or_int.f k [a,b,c]=some (or3 a b c):=by
  obtain ⟨k,rfl⟩ : ∃ q,k=q + 4:=⟨k - 4,by omega⟩
  have r0:rd [a,b,c] 0=a:=rfl
  have r1:rd [a,b,c] 1=b:=rfl
  have r2:rd [a,b,c] 2=c:=rfl
  unfold cmp_Or_int.f or3
  simp only [cmp_Or_int.l0,List.length_cons,List.length_nil]
  have w1:wrap64 (0 + 1)=1:=wrap_id (by decide)
  have w2:wrap64 (1 + 1)=2:=wrap_id (by decide)
  have w3:wrap64 (2 + 1)=3:=wrap_id (by decide)
  rw [if_pos (by decide),if_pos (by decide),if_pos (by decide),r0]
  by_cases ha:a=0
  · rw [if_pos ha,if_pos ha,w1,if_pos (by decide),if_pos (by decide),if_pos (by decide),r1]
    by_cases hb:b=0
    · rw [if_pos hb,if_pos hb,w2,if_pos (by decide),if_pos (by decide),if_pos (by decide),r2]
      by_cases hc:c=0
      · rw [if_pos hc,w3,if_neg (by decide),hc]
      · rw [if_neg hc]
    · rw [if_neg hb,if_neg hb]
  · rw [if_neg ha,if_neg ha]
theorem cmp_eq (y m d y2 m2 d2:Int) (k:Nat) (hk:3 < k):date_Cmp.f k y m d y2 m2 d2=some (or3 (sgI y y2) (sgI m m2) (sgI d d2)):=by
  unfold date_Cmp.f
  simp only [cmpI_d,Option.bind_some,or3_eq _ _ _ k hk]
theorem refcmp_eq (a b c p q r:Int) (k:Nat) (hk:3 < k):chattelref09_Cmp.f k a b c p q r=some (or3 (sgI a p) (sgI b q) (sgI c r)):=by
  obtain ⟨k,rfl⟩ : ∃ q,k=q + 4:=⟨k - 4,by omega⟩
  have r0:rd [a,b,c] 0=a:=rfl
  have r1:rd [a,b,c] 1=b:=rfl
  have r2:rd [a,b,c] 2=c:=rfl
  have s0:rd [p,q,r] 0=p:=rfl
  have s1:rd [p,q,r] 1=q:=rfl
  have s2:rd [p,q,r] 2=r:=rfl
  have w1:wrap64 (0 + 1)=1:=wrap_id (by decide)
  have w2:wrap64 (1 + 1)=2:=wrap_id (by decide)
  have w3:wrap64 (2 + 1)=3:=wrap_id (by decide)
  unfold chattelref09_Cmp.f or3 sgI
  simp only [chattelref09_Cmp.l0,List.length_cons,List.length_nil]
  rw [if_pos (by decide),if_pos (by decide),if_pos (by decide),if_pos (by decide),r0,s0]
  by_cases h1:a < p
  · rw [if_pos h1,if_pos h1,if_neg (by decide)]
  · rw [if_neg h1,if_neg h1]
    by_cases h2:a > p
    · rw [if_pos h2,if_pos h2,if_neg (by decide)]
    · rw [if_neg h2,if_neg h2]
      simp only [if_true]
      rw [w1,if_pos (by decide),if_pos (by decide),if_pos (by decide),if_pos (by decide),r1,s1]
      by_cases h3:b < q
      · rw [if_pos h3,if_pos h3,if_neg (by decide)]
      · rw [if_neg h3,if_neg h3]
        by_cases h4:b > q
        · rw [if_pos h4,if_pos h4,if_neg (by decide)]
        · rw [if_neg h4,if_neg h4]
          simp only [if_true]
          rw [w2,if_pos (by decide),if_pos (by decide),if_pos (by decide),if_pos (by decide),r2,s2]
          by_cases h5:c < r
          · rw [if_pos h5,if_pos h5]
          · rw [if_neg h5,if_neg h5]
            by_cases h6:c > r
            · rw [if_pos h6,if_pos h6]
            · rw [if_neg h6,if_neg h6,w3,if_neg (by decide)]
theorem sg_lt_d {a b:Int} (h:a < b):sgI a b = -1:=if_pos h
theorem sg_gt_d {a b:Int} (h:b < a):sgI a b=1:=by unfold sgI;rw [if_neg (by omega),if_pos h]
theorem sg_eq_d (a:Int):sgI a a=0:=by unfold sgI;rw [if_neg (by omega),if_neg (by omega)]
theorem or3_num {y m d y2 m2 d2:Int} (h:Right y m d) (h2:Right y2 m2 d2):or3 (sgI y y2) (sgI m m2) (sgI d d2)=sgI (num y m d) (num y2 m2 d2):=by
  rcases Int.lt_trichotomy y y2 with a|a|a
  · rw [sg_lt_d a,sg_lt_d (num_year h h2 a)];rfl
  · subst a
    rw [sg_eq_d]
    rcases Int.lt_trichotomy m m2 with a|a|a
    · rw [sg_lt_d a,sg_lt_d (num_month h h2 a)];rfl
    · subst a
      rw [sg_eq_d]
      rcases Int.lt_trichotomy d d2 with a|a|a
      · rw [sg_lt_d a,sg_lt_d (num_day a)];rfl
      · subst a
        rw [sg_eq_d,sg_eq_d];rfl
      · rw [sg_gt_d a,sg_gt_d (num_day a)];rfl
    · rw [sg_gt_d a,sg_gt_d (num_month h2 h a)];rfl
  · rw [sg_gt_d a,sg_gt_d (num_year h2 h a)];rfl
def sg (a b:Nat):Int:=if a < b then -1 else if a=b then 0 else 1
theorem cmpI (a b:Int):cmp_Compare_int.f a b=some (if a < b then -1 else if a=b then 0 else 1):=by
  unfold cmp_Compare_int.f cmp_isNaN_int.f
  simp only [Option.bind_some,bne_self_eq_false,Bool.false_eq_true,if_false]
  by_cases h:a < b
  · simp [h]
  · by_cases h2:a > b
    · rw [if_neg h,if_pos h2,if_neg h,if_neg (by omega)]
    · rw [if_neg h,if_neg h2,if_neg h,if_pos (by omega)]
theorem cmpU (a b:Int):cmp_Compare_uint64.f a b=some (if a < b then -1 else if a=b then 0 else 1):=by
  unfold cmp_Compare_uint64.f cmp_isNaN_uint64.f
  simp only [Option.bind_some,bne_self_eq_false,Bool.false_eq_true,if_false]
  by_cases h:a < b
  · simp [h]
  · by_cases h2:a > b
    · rw [if_neg h,if_pos h2,if_neg h,if_neg (by omega)]
    · rw [if_neg h,if_neg h2,if_neg h,if_pos (by omega)]
theorem sg_step {B:Int} (hB:0 < B) {a b:List Int} (ha:wf B a) (hb:wf B b) (i:Nat) (heq:vl B (a.take (i + 1)) < vl B (b.take (i + 1)) ↔ vl B a < vl B b)
    (heq2:vl B (a.take (i + 1))=vl B (b.take (i + 1)) ↔ vl B a=vl B b) (hla:i < a.length) (hlb:i < b.length) :
    (a.getD i 0 < b.getD i 0→vl B a < vl B b)∧(b.getD i 0 < a.getD i 0→vl B b < vl B a) ∧
    (a.getD i 0=b.getD i 0→(vl B (a.take i) < vl B (b.take i) ↔ vl B a < vl B b)∧(vl B (a.take i)=vl B (b.take i) ↔ vl B a=vl B b)):=by
  have h1:=vl_lt hB (wf_take ha i)
  have h2:=vl_lt hB (wf_take hb i)
  have h3:=vl_nonneg hB (wf_take ha i)
  have h4:=vl_nonneg hB (wf_take hb i)
  rw [List.length_take,Nat.min_eq_left (Nat.le_of_lt hla)] at h1
  rw [List.length_take,Nat.min_eq_left (Nat.le_of_lt hlb)] at h2
  rw [vl_take_succ,vl_take_succ] at heq heq2
  generalize vl B (a.take i)=p at *
  generalize vl B (b.take i)=q at *
  generalize hx:a.getD i 0=x at *
  generalize hy:b.getD i 0=y at *
  generalize B ^ i=m at *
  have hm:0 < m:=by omega
  have key : ∀ s t:Int,s < t→m * s + m≤m * t:=fun s t hst=>by
    have:=Int.mul_le_mul_of_nonneg_left (show s + 1≤t by omega) (Int.le_of_lt hm)
    rwa [Int.mul_add,Int.mul_one] at this
  refine ⟨fun h=>?_,fun h=>?_,fun h=>?_⟩
  · have:=key x y h;exact heq.1 (by omega)
  · have:=key y x h
    have h5 : ¬ vl B a < vl B b:=fun h=>by have:=heq.2 h;omega
    have h6 : ¬ vl B a=vl B b:=fun h=>by have:=heq2.2 h;omega
    omega
  · subst h
    exact ⟨⟨fun h=>heq.1 (by omega),fun h=>by have:=heq.2 h;omega⟩,⟨fun h=>heq2.1 (by omega),fun h=>by have:=heq2.2 h;omega⟩⟩
theorem cmp_l0 (a b:List Int) (ha:wfW a) (hb:wfW b) (hl:a.length=b.length) (hm:a.length < 4611686018427387904) : ∀ n:Nat,n≤a.length →
    (vW (a.take n) < vW (b.take n) ↔ vW a < vW b)→(vW (a.take n)=vW (b.take n) ↔ vW a=vW b)→∀ k,n < k→nat_Nat_Cmp.l0 k ((n:Int) - 1) a b=some (if vW a < vW b then -1 else if vW a=vW b then 0 else 1):=by
  intro n
  induction n with
  | zero =>
    intro hn h1 h2 k hk
    obtain ⟨k,rfl⟩ : ∃ m,k=m + 1:=⟨k - 1,by omega⟩
    simp only [nat_Nat_Cmp.l0]
    rw [if_neg (by omega)]
    have h3:vW a=vW b:=h2.1 rfl
    rw [if_neg (by omega),if_pos h3]
  | succ n ih =>
    intro hn h1 h2 k hk
    obtain ⟨k,rfl⟩ : ∃ m,k=m + 1:=⟨k - 1,by omega⟩
    have e1:((n + 1:Nat):Int) - 1=(n:Int):=by omega
    have e2:wrap64 ((n:Int) - 1)=(n:Int) - 1:=wrap_id (by omega)
    simp only [nat_Nat_Cmp.l0,e1,e2,rd_nat,cmpU,Option.bind_some]
    rw [if_pos (by omega),if_pos (by omega),if_pos (by omega),if_pos (by omega)]
    obtain ⟨s1,s2,s3⟩:=sg_step W_pos ha hb n h1 h2 (by omega) (by omega)
    by_cases c1:a.getD n 0 < b.getD n 0
    · have:=s1 c1
      rw [if_pos c1,if_neg (by decide),if_pos this]
    · by_cases c2:a.getD n 0=b.getD n 0
      · rw [if_neg c1,if_pos c2,if_pos rfl]
        exact ih (by omega) (s3 c2).1 (s3 c2).2 k (by omega)
      · have:=s2 (by omega)
        simp only [vW]
        rw [if_neg c1,if_neg c2,if_neg (by decide),if_neg (by omega),if_neg (by omega)]
theorem lim_len_lt {a b:Nat} (h:(lim a).length < (lim b).length):a < b:=by
  have h1:=dg_lt W2 a
  have h2:b≠0:=fun h0=>by subst h0;unfold lim at h;rw [dg_zero] at h;simp at h
  have h3:=dg_le W2 h2
  have h4:W ^ (dg W a).length≤W ^ ((dg W b).length - 1):=Nat.pow_le_pow_right (by decide) (by unfold lim at h;omega)
  omega
theorem cmp_ev (a b:Nat) (ha:(lim a).length < 4611686018427387904) (hb:(lim b).length < 4611686018427387904):Ev (fun k=>nat_Nat_Cmp.f k (lim a) (lim b)) (sg a b):=by
  unfold nat_Nat_Cmp.f
  simp only [cmpI,Option.bind_some]
  rcases Nat.lt_trichotomy (lim a).length (lim b).length with h|h|h
  · have:=lim_len_lt h
    rw [if_pos (by omega)]
    refine Ev.neg (by decide) (Ev.const ?_)
    unfold sg;rw [if_pos this]
  · rw [if_neg (by omega),if_pos (by omega)]
    refine Ev.pos rfl (Ev.lt (lim a).length (fun k hk=>?_))
    rw [wrap_id (by omega)]
    rw [cmp_l0 (lim a) (lim b) (lim_wf a) (lim_wf b) h ha (lim a).length (Nat.le_refl _) (by rw [List.take_of_length_le (Nat.le_refl _),List.take_of_length_le (by omega)]) (by rw [List.take_of_length_le (Nat.le_refl _),List.take_of_length_le (by omega)]) k hk]
    rw [lim_v,lim_v]
    unfold sg
    congr 1
    by_cases h1:a < b
    · rw [if_pos h1,if_pos (by omega)]
    · rw [if_neg h1,if_neg (by omega)]
      by_cases h2:a=b
      · rw [if_pos h2,if_pos (by omega)]
      · rw [if_neg h2,if_neg (by omega)]
  · have:=lim_len_lt h
    rw [if_neg (by omega),if_neg (by omega)]
    refine Ev.neg (by decide) (Ev.const ?_)
    unfold sg;rw [if_neg (by omega),if_neg (by omega)]
structure SubInv (a b x:List Int) (c:Int) (n i:Nat):Prop where
  w:wfW x
  len:x.length=n
  c0:0≤c∧c≤1
  z : ∀ j,i≤j→x.getD j 0=0
  v:vW x - c * ((W:Nat):Int) ^ i=vW (a.take i) - vW (b.take i)
theorem sub_l0 (a b:List Int) (ha:wfW a) (hb:wfW b) (hn:a.length < 4611686018427387904) (hn2:b.length≤a.length) (hle:vW b≤vW a) :
    ∀ d i:Nat,i + d=a.length→∀ x c,SubInv a b x c a.length i→Ev (fun k=>nat_Nat_Sub.l0 k x c (a.length:Int) (i:Int) a b) (lim (vW a - vW b).toNat,true):=by
  intro d
  induction d with
  | zero =>
    intro i hi x c h
    have hi':i=a.length:=by omega
    subst hi'
    refine Ev.unroll ?_
    simp only [nat_Nat_Sub.l0]
    refine Ev.neg (by omega) ?_
    have hv:=h.v
    rw [show vW (a.take a.length)=vW a from vl_take_ge _ _ _ (by omega),show vW (b.take a.length)=vW b from vl_take_ge _ _ _ (by omega)] at hv
    have hc:c=0:=by
      have h1:=vl_lt W_pos h.w
      rw [h.len] at h1
      rcases Int.le_iff_lt_or_eq.1 h.c0.1 with h8|h8
      · have h9:c=1:=by have:=h.c0.2;omega
        rw [h9] at hv
        simp only [vW] at hv hle
        omega
      · exact h8.symm
    rw [hc,Int.zero_mul,Int.sub_zero] at hv
    rw [← hv]
    exact Ev.bind (f:=fun _ t=>some (t,true)) (trimmed_ev x h.w (by rw [h.len];exact hn)) (Ev.now _)
  | succ d ih =>
    intro i hi x c h
    refine Ev.unroll ?_
    simp only [nat_Nat_Sub.l0]
    refine Ev.pos (by omega) (Ev.pos (by omega) (Ev.pos (by omega) ?_))
    have e1:wrap64 ((i:Int) + 1)=((i + 1:Nat):Int):=by rw [wrap_id (by omega)];omega
    simp only [limb_eq,Option.bind_some,e1,Int.toNat_natCast,rd_nat]
    refine Ev.pos h.c0.2 (Ev.pos (by rw [h.len];omega) ?_)
    have wa:=wf_getD W_pos ha i
    have wb:=wf_getD W_pos hb i
    obtain ⟨s1,s2,s3⟩:=sub64_b wa wb h.c0
    refine ih (i + 1) (by omega) _ _ ⟨wf_set h.w i s1,by rw [List.length_set,h.len],s2,fun j hj=>by rw [getD_set_ne _ _ _ _ _ (by omega)];exact h.z j (by omega),?_⟩
    have hv:=h.v
    show vl _ _ - _=vl _ _ - vl _ _
    rw [vl_set _ _ _ _ (by rw [h.len];omega),h.z i (Nat.le_refl i),vl_take_succ,vl_take_succ,Int.pow_succ,Int.sub_zero]
    simp only [vW] at hv
    generalize ((W:Nat):Int) ^ i=p at *
    generalize sub64d (a.getD i 0) (b.getD i 0) c=s at *
    generalize sub64b (a.getD i 0) (b.getD i 0) c=q at *
    have e2:p * (s - 18446744073709551616 * q)=p * (a.getD i 0 - b.getD i 0 - c):=by rw [s3]
    simp only [W_int] at *
    grind
theorem sub_ev (a b:Nat) (la:(lim a).length≤1099511627776) (lb:(lim b).length≤1099511627776):Ev (fun k=>nat_Nat_Sub.f k (lim a) (lim b)) (if a < b then ([],false) else (lim (a - b),true)):=by
  unfold nat_Nat_Sub.f
  refine Ev.bind (f:=fun k t378=>if t378 < 0 then some (([]:List Int),false) else _) (cmp_ev a b (by omega) (by omega)) ?_
  unfold sg
  by_cases h:a < b
  · rw [if_pos h,if_pos h]
    exact Ev.pos (by decide) (Ev.now _)
  · rw [if_neg h,if_neg h]
    refine Ev.neg (by split <;> decide) (Ev.pos (by omega) (Ev.pos (by omega) ?_))
    simp only [Option.bind_some,List.length_replicate,Int.toNat_natCast]
    have hlen:(lim b).length≤(lim a).length:=by
      rcases Nat.lt_or_ge (lim a).length (lim b).length with h1|h1
      · exact absurd (lim_len_lt h1) h
      · exact h1
    have:=sub_l0 (lim a) (lim b) (lim_wf a) (lim_wf b) (by omega) hlen (by rw [lim_v,lim_v];omega) _ 0 (Nat.zero_add _) _ _ (⟨wf_replicate W_pos _,List.length_replicate,by omega,fun j _=>by rw [List.getD_eq_getElem?_getD,List.getElem?_replicate];split <;> rfl,by show vl _ _ - _=vl _ _ - vl _ _;rw [vl_replicate];rfl⟩:SubInv (lim a) (lim b) (List.replicate (lim a).length 0) 0 (lim a).length 0)
    rw [lim_v,lim_v,show ((a:Int) - (b:Int)).toNat=a - b by omega] at this
    exact this
theorem mask32 (a:Nat) (ha:a < 18446744073709551616):bits .and .u64 (a:Int) 4294967295=((a % 4294967296:Nat):Int):=by
  rw [show (4294967295:Int)=((4294967295:Nat):Int) from rfl,bits_and_u64_nat a 4294967295 ha (by decide)]
  congr 1
  exact Nat.and_two_pow_sub_one_eq_mod a 32
theorem wrapN (a:Nat) (ha:a < 18446744073709551616):IntKind.u64.wrap (a:Int)=(a:Int):=u64_id (by omega)
theorem mul64_eq (x y:Nat) (hx:x < 18446744073709551616) (hy:y < 18446744073709551616):bits_Mul64.f (x:Int) (y:Int)=some (((x * y / 18446744073709551616:Nat):Int),((x * y % 18446744073709551616:Nat):Int)):=by
  unfold bits_Mul64.f
  have d32 : ∀ a:Nat,(a:Int) / 4294967296=((a / 4294967296:Nat):Int):=fun a=>by omega
  generalize hx1:x / 4294967296=x1
  generalize hx0:x % 4294967296=x0
  generalize hy1:y / 4294967296=y1
  generalize hy0:y % 4294967296=y0
  have bx1:x1≤4294967295:=by omega
  have bx0:x0≤4294967295:=by omega
  have by1:y1≤4294967295:=by omega
  have by0:y0≤4294967295:=by omega
  have bd : ∀ {a b:Nat},a≤4294967295→b≤4294967295→a * b≤18446744065119617025:=fun ha hb=>Nat.mul_le_mul ha hb
  have p11:=bd bx1 by1
  have p10:=bd bx1 by0
  have p01:=bd bx0 by1
  have p00:=bd bx0 by0
  have ex:x=x1 * 4294967296 + x0:=by omega
  have ey:y=y1 * 4294967296 + y0:=by omega
  have emul:x * y=x1 * y1 * 18446744073709551616 + (x1 * y0 + x0 * y1) * 4294967296 + x0 * y0:=by
    rw [ex,ey];grind
  simp only [d32,mask32 x hx,mask32 y hy,hx1,hx0,hy1,hy0,← Int.natCast_mul]
  rw [wrapN (x1 * y1) (by omega),wrapN (x1 * y0) (by omega),wrapN (x0 * y0) (by omega),wrapN (x0 * y1) (by omega)]
  simp only [d32,← Int.natCast_add]
  rw [wrapN (x1 * y0 + x0 * y0 / 4294967296) (by omega),mask32 _ (by omega)]
  simp only [d32,← Int.natCast_add]
  rw [wrapN (x1 * y1 + (x1 * y0 + x0 * y0 / 4294967296) / 4294967296) (by omega),wrapN ((x1 * y0 + x0 * y0 / 4294967296) % 4294967296 + x0 * y1) (by omega)]
  simp only [d32,← Int.natCast_add]
  rw [wrapN _ (by omega),u64_wrap,emul]
  congr 2
  · congr 1
    generalize x1 * y1=a at *
    generalize x1 * y0=b at *
    generalize x0 * y1=c at *
    generalize x0 * y0=d at *
    omega
end Go.Proofs.YtakidmbnkkhojaaGreatM
end
