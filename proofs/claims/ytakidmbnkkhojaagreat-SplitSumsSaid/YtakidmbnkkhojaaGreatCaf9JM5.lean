-- Joined of: M0 M1 E0 D0 D1a D3 D3b D6 D6b D2c D8 M2 M3 M4 Q0 Q1 Q2 Q3 Q4 Q5 Q6 Q7 Q8 Q9 Q10 H0 H1 R1 R2 R3 R5 H2 H4 P0 P1 P2
import Derived.Test.YtakidmbnkkhojaaGreatCaf9WMore
import Derived.Test.YtakidmbnkkhojaaGreatCaf9D
import Derived.Laws.Bits64b
section
namespace Go.Proofs.YtakidmbnkkhojaaGreatM
open Go.RowKit Go.Proofs.YtakidmbnkkhojaaGreatW.PrintWords Go.Proofs.YtakidmbnkkhojaaGreatW.PrintLast Go.Proofs.YtakidmbnkkhojaaGreatW.PrintMore
set_option linter.unusedVariables false
set_option linter.unusedSimpArgs false
def wf (B:Int) (l:List Int):Prop:=∀ x ∈ l,0≤x∧x < B
def vl (B:Int):List Int→Int
  | []=>0
  | x :: xs=>x + B * vl B xs
theorem wf_nil (B:Int):wf B []:=fun x h=>by cases h
theorem wf_cons {B x:Int} {l:List Int}:wf B (x :: l) ↔ (0≤x∧x < B)∧wf B l:=by
  unfold wf
  simp only [List.mem_cons,forall_eq_or_imp]
theorem wf_append {B:Int} {a b:List Int} (ha:wf B a) (hb:wf B b):wf B (a ++ b):=by
  intro x hx
  rcases List.mem_append.1 hx with h|h
  · exact ha x h
  · exact hb x h
theorem wf_take {B:Int} {l:List Int} (h:wf B l) (n:Nat):wf B (l.take n):=fun x hx=>h x (List.mem_of_mem_take hx)
theorem wf_drop {B:Int} {l:List Int} (h:wf B l) (n:Nat):wf B (l.drop n):=fun x hx=>h x (List.mem_of_mem_drop hx)
theorem wf_set {B:Int} {l:List Int} (h:wf B l) (n:Nat) {x:Int} (hx:0≤x∧x < B):wf B (l.set n x):=by
  intro y hy
  rcases List.mem_or_eq_of_mem_set hy with h1|h1
  · exact h y h1
  · rw [h1];exact hx
theorem wf_replicate {B:Int} (hB:0 < B) (n:Nat):wf B (List.replicate n 0):=by
  intro x hx
  rw [List.eq_of_mem_replicate hx]
  omega
theorem wf_getD {B:Int} {l:List Int} (hB:0 < B) (h:wf B l) (i:Nat):0≤l.getD i 0∧l.getD i 0 < B:=by
  rw [List.getD_eq_getElem?_getD]
  rcases Nat.lt_or_ge i l.length with hi|hi
  · rw [List.getElem?_eq_getElem hi]
    exact h _ (List.getElem_mem hi)
  · rw [List.getElem?_eq_none hi]
    exact ⟨Int.le_refl 0,hB⟩
theorem vl_append (B:Int) (a b:List Int):vl B (a ++ b)=vl B a + B ^ a.length * vl B b:=by
  induction a with
  | nil=>simp [vl]
  | cons x a ih =>
    simp only [List.cons_append,vl,ih,List.length_cons,Int.pow_succ]
    grind
theorem vl_nonneg {B:Int} (hB:0 < B) {l:List Int} (h:wf B l):0≤vl B l:=by
  induction l with
  | nil=>exact Int.le_refl 0
  | cons x l ih =>
    obtain ⟨h1,h2⟩:=wf_cons.1 h
    have:=Int.mul_nonneg (Int.le_of_lt hB) (ih h2)
    simp only [vl]
    omega
theorem vl_lt {B:Int} (hB:0 < B) {l:List Int} (h:wf B l):vl B l < B ^ l.length:=by
  induction l with
  | nil=>simp [vl]
  | cons x l ih =>
    obtain ⟨h1,h2⟩:=wf_cons.1 h
    have h3:=ih h2
    have h4:B * (vl B l + 1)≤B * B ^ l.length:=Int.mul_le_mul_of_nonneg_left (by omega) (Int.le_of_lt hB)
    simp only [vl,List.length_cons,Int.pow_succ]
    rw [Int.mul_comm (B ^ l.length) B]
    rw [Int.mul_add,Int.mul_one] at h4
    omega
theorem vl_replicate (B:Int) (n:Nat):vl B (List.replicate n 0)=0:=by
  induction n with
  | zero=>rfl
  | succ n ih=>simp [List.replicate_succ,vl,ih]
theorem vl_take_succ (B:Int) (l:List Int) (i:Nat):vl B (l.take (i + 1))=vl B (l.take i) + B ^ i * l.getD i 0:=by
  rcases Nat.lt_or_ge i l.length with hi|hi
  · rw [List.take_succ_eq_append_getElem hi,vl_append,List.length_take,Nat.min_eq_left (Nat.le_of_lt hi),List.getD_eq_getElem?_getD,List.getElem?_eq_getElem hi]
    simp [vl]
  · rw [List.take_of_length_le hi,List.take_of_length_le (by omega),List.getD_eq_getElem?_getD,List.getElem?_eq_none hi]
    simp
theorem vl_take_ge (B:Int) (l:List Int) (i:Nat) (h:l.length≤i):vl B (l.take i)=vl B l:=by rw [List.take_of_length_le h]
theorem getD_set_self (l:List Int) (i:Nat) (x d:Int) (h:i < l.length):(l.set i x).getD i d=x:=by
  rw [List.getD_eq_getElem?_getD,List.getElem?_set_self h]
  rfl
theorem getD_set_ne (l:List Int) (i j:Nat) (x d:Int) (h:i≠j):(l.set i x).getD j d=l.getD j d:=by
  rw [List.getD_eq_getElem?_getD,List.getElem?_set_ne h,List.getD_eq_getElem?_getD]
theorem vl_set (B:Int) (l:List Int) (i:Nat) (x:Int) (h:i < l.length):vl B (l.set i x)=vl B l + B ^ i * (x - l.getD i 0):=by
  induction l generalizing i with
  | nil=>simp at h
  | cons y l ih =>
    cases i with
    | zero =>
      simp only [List.set_cons_zero,vl,List.getD_cons_zero,Int.pow_zero]
      omega
    | succ i =>
      simp only [List.set_cons_succ,vl,List.getD_cons_succ,Int.pow_succ]
      rw [ih i (by simpa using h)]
      grind
def dg (B n:Nat):List Int:=if h:n=0∨B < 2 then [] else ((n % B:Nat):Int) :: dg B (n / B)
termination_by n
decreasing_by exact Nat.div_lt_self (by omega) (by omega)
theorem dg_zero (B:Nat):dg B 0 = []:=by rw [dg];simp
theorem dg_pos {B n:Nat} (hB:2≤B) (hn:n≠0):dg B n=((n % B:Nat):Int) :: dg B (n / B):=by
  rw [dg,dif_neg (by omega)]
theorem dg_wf {B:Nat} (hB:2≤B) (n:Nat):wf (B:Int) (dg B n):=by
  induction n using Nat.strongRecOn with
  | _ n ih =>
    by_cases h:n=0
    · subst h;rw [dg_zero];exact wf_nil _
    · rw [dg_pos hB h]
      have:=Nat.mod_lt n (show 0 < B by omega)
      exact wf_cons.2 ⟨by omega,ih _ (Nat.div_lt_self (by omega) (by omega))⟩
theorem dg_vl {B:Nat} (hB:2≤B) (n:Nat):vl (B:Int) (dg B n)=n:=by
  induction n using Nat.strongRecOn with
  | _ n ih =>
    by_cases h:n=0
    · subst h;rw [dg_zero];rfl
    · rw [dg_pos hB h]
      simp only [vl]
      rw [ih _ (Nat.div_lt_self (by omega) (by omega)),← Int.natCast_mul,← Int.natCast_add]
      congr 1
      exact Nat.mod_add_div n B
theorem dg_of {B:Nat} (hB:2≤B) {l:List Int} (h:wf (B:Int) l) (hl : ∀ (hne:l≠[]),l.getLast hne≠0):dg B (vl (B:Int) l).toNat=l:=by
  induction l with
  | nil=>simp [vl,dg_zero]
  | cons x l ih =>
    obtain ⟨h1,h2⟩:=wf_cons.1 h
    have hv:=vl_nonneg (B:=(B:Int)) (by omega) h2
    have ih':=ih h2 (fun hne=>by
      have:=hl (List.cons_ne_nil x l)
      rwa [List.getLast_cons hne] at this)
    obtain ⟨X,rfl⟩:=Int.eq_ofNat_of_zero_le h1.1
    obtain ⟨V,hV⟩:=Int.eq_ofNat_of_zero_le hv
    rw [hV] at ih'
    simp only [Int.toNat_natCast] at ih'
    have e1:(vl (B:Int) ((X:Int) :: l)).toNat=X + B * V:=by
      simp only [vl,hV]
      omega
    have hX:X < B:=by omega
    have hne:X + B * V≠0:=by
      intro h0
      have hX0:X=0:=by omega
      have hV0:V=0:=by
        have h3:B * V=0:=by omega
        rcases Nat.mul_eq_zero.1 h3 with h4|h4
        · omega
        · exact h4
      subst hV0
      rw [dg_zero] at ih'
      subst ih'
      have:=hl (List.cons_ne_nil _ _)
      simp at this
      omega
    rw [e1,dg_pos hB hne,Nat.add_mul_mod_self_left,Nat.mod_eq_of_lt hX,Nat.add_mul_div_left _ _ (by omega),Nat.div_eq_of_lt hX,Nat.zero_add,ih']
theorem dg_len_le {B:Nat} (hB:2≤B) {n m:Nat} (h:n < B ^ m):(dg B n).length≤m:=by
  induction m generalizing n with
  | zero =>
    have:n=0:=by simpa using h
    subst this
    rw [dg_zero]
    exact Nat.le_refl 0
  | succ m ih =>
    by_cases h0:n=0
    · subst h0;rw [dg_zero];exact Nat.zero_le _
    · rw [dg_pos hB h0,List.length_cons]
      have:n / B < B ^ m:=by
        rw [Nat.div_lt_iff_lt_mul (by omega)]
        rwa [Nat.pow_succ] at h
      have:=ih this
      omega
theorem dg_lt {B:Nat} (hB:2≤B) (n:Nat):n < B ^ (dg B n).length:=by
  have h:=vl_lt (B:=(B:Int)) (by omega) (dg_wf hB n)
  rw [dg_vl hB n,← Int.natCast_pow] at h
  exact Int.ofNat_lt.1 h
theorem dg_le {B:Nat} (hB:2≤B) {n:Nat} (h:n≠0):B ^ ((dg B n).length - 1)≤n:=by
  rcases Nat.lt_or_ge n (B ^ ((dg B n).length - 1)) with h1|h1
  · have h2:=dg_len_le hB h1
    have h3:(dg B n).length≠0:=by rw [dg_pos hB h];simp
    omega
  · exact h1
theorem dg_getD {B:Nat} (hB:2≤B) (n i:Nat):(dg B n).getD i 0=((n / B ^ i % B:Nat):Int):=by
  induction i generalizing n with
  | zero =>
    by_cases h:n=0
    · subst h;simp [dg_zero]
    · rw [dg_pos hB h,List.getD_cons_zero,Nat.pow_zero,Nat.div_one]
  | succ i ih =>
    by_cases h:n=0
    · subst h;simp [dg_zero]
    · rw [dg_pos hB h,List.getD_cons_succ,ih,Nat.div_div_eq_div_mul,Nat.pow_succ,Nat.mul_comm B]
theorem wrap_id {x:Int} (h : -9223372036854775808≤x∧x≤9223372036854775807):wrap64 x=x:=by unfold wrap64;omega
theorem u64_wrap (x:Int):IntKind.u64.wrap x=x % 18446744073709551616:=by
  first|rfl|simp [IntKind.wrap,IntKind.bits]
theorem u64_id {x:Int} (h:0≤x∧x < 18446744073709551616):IntKind.u64.wrap x=x:=by rw [u64_wrap];omega
theorem mn_eq (a b:Int):mn a b=min a b:=by unfold mn;split <;> omega
theorem mx_eq (a b:Int):mx a b=max a b:=by unfold mx;split <;> omega
theorem rd_nat (l:List Int) (i:Nat):rd l (i:Int)=l.getD i 0:=by unfold rd;rw [Int.toNat_natCast]
end Go.Proofs.YtakidmbnkkhojaaGreatM
end

section
namespace Go.Proofs.YtakidmbnkkhojaaGreatM
open Go.RowKit Go.Proofs.YtakidmbnkkhojaaGreatW.PrintWords Go.Proofs.YtakidmbnkkhojaaGreatW.PrintLast Go.Proofs.YtakidmbnkkhojaaGreatW.PrintMore Go.Proofs.YtakidmbnkkhojaaGreatX Go.Proofs.YtakidmbnkkhojaaGreat.F
set_option linter.unusedVariables false
set_option linter.unusedSimpArgs false
theorem Ev.unroll {α:Type} {g:Nat→Option α} {r:α} (h:Ev (fun k=>g (k + 1)) r):Ev g r:=Ev.step (fun _=>rfl) h
theorem Ev.pos {α:Type} {a b:Nat→Option α} {r:α} {c:Prop} [Decidable c] (h:c) (e:Ev a r):Ev (fun k=>if c then a k else b k) r:=by
  simp only [if_pos h];exact e
theorem Ev.neg {α:Type} {a b:Nat→Option α} {r:α} {c:Prop} [Decidable c] (h : ¬ c) (e:Ev b r):Ev (fun k=>if c then a k else b k) r:=by
  simp only [if_neg h];exact e
theorem Ev.const {α:Type} {a:Option α} {r:α} (h:a=some r):Ev (fun _=>a) r:=⟨0,fun _ _=>h⟩
theorem Ev.bindc {α β:Type} {a:Option α} {x:α} {f:Nat→α→Option β} {r:β} (h:a=some x) (e:Ev (fun k=>f k x) r):Ev (fun k=>a.bind (f k)) r:=by
  subst h;exact e
theorem Ev.lt {α:Type} {g:Nat→Option α} {r:α} (n:Nat) (h : ∀ k,n < k→g k=some r):Ev g r:=⟨n + 1,fun k hk=>h k hk⟩
theorem clone_eq (l:List Int) (h:l.length < 17592186044416):slices_Clone_uint64_uint64.f l=some l:=by
  unfold slices_Clone_uint64_uint64.f
  simp [h]
theorem limbs_eq (l:List Int) (h:l.length < 17592186044416):nat_Nat_Limbs.f l=some l:=by
  unfold nat_Nat_Limbs.f
  rw [clone_eq l h]
  rfl
abbrev W:Nat:=18446744073709551616
theorem W2:2≤W:=by decide
def lim (n:Nat):List Int:=dg W n
abbrev wfW (l:List Int):Prop:=wf ((W:Nat):Int) l
abbrev vW (l:List Int):Int:=vl ((W:Nat):Int) l
theorem W_pos:(0:Int) < ((W:Nat):Int):=by decide
theorem W_int:((W:Nat):Int)=18446744073709551616:=rfl
theorem trimmed_l0 (x:List Int) (hx:wfW x) (hl:x.length < 4611686018427387904) : ∀ n:Nat,n≤x.length→vW (x.take n)=vW x→∀ k,n < k→nat_trimmed.l0 k x (n:Int)=some (lim (vW x).toNat):=by
  intro n
  induction n with
  | zero =>
    intro hn hv k hk
    obtain ⟨k,rfl⟩ : ∃ m,k=m + 1:=⟨k - 1,by omega⟩
    simp only [nat_trimmed.l0]
    rw [if_neg (by omega),if_pos (by omega),if_pos (by omega)]
    have:vW x=0:=by rw [← hv];rfl
    rw [this]
    show some (x.take 0)=some (dg W 0)
    rw [dg_zero]
    rfl
  | succ n ih =>
    intro hn hv k hk
    obtain ⟨k,rfl⟩ : ∃ m,k=m + 1:=⟨k - 1,by omega⟩
    have e1:wrap64 (((n + 1:Nat):Int) - 1)=(n:Int):=by rw [wrap_id (by omega)];omega
    simp only [nat_trimmed.l0]
    rw [if_pos (by omega),e1,if_pos (by omega),if_pos (by omega),rd_nat]
    by_cases h0:x.getD n 0=0
    · rw [if_pos h0]
      refine ih (by omega) ?_ k (by omega)
      rw [← hv]
      show vl _ _=vl _ _
      rw [vl_take_succ,h0,Int.mul_zero,Int.add_zero]
    · rw [if_neg h0,if_pos (by omega),if_pos (by omega),Int.toNat_natCast]
      have h1:=dg_of W2 (wf_take hx (n + 1)) (fun hne=>by
        have h2:(x.take (n + 1)).getLast hne=x.getD n 0:=by
          have h3:(x.take (n + 1)).length=n + 1:=by rw [List.length_take];omega
          rw [List.getLast_eq_getElem,List.getElem_take,List.getD_eq_getElem?_getD,List.getElem?_eq_getElem (by omega)]
          simp [h3]
        rw [h2];exact h0)
      rw [← h1]
      show some (lim _)=_
      rw [show vl ((W:Nat):Int) (x.take (n + 1))=vW x from hv]
theorem trimmed_ev (x:List Int) (hx:wfW x) (hl:x.length < 4611686018427387904):Ev (fun k=>nat_trimmed.f k x) (lim (vW x).toNat):=by
  refine Ev.lt x.length (fun k hk=>?_)
  unfold nat_trimmed.f
  exact trimmed_l0 x hx hl x.length (Nat.le_refl _) (vl_take_ge _ _ _ (Nat.le_refl _)) k hk
theorem of_ev (l:List Int) (hx:wfW l) (h:l.length < 17592186044416):Ev (fun k=>nat_Of.f k l) (lim (vW l).toNat):=by
  unfold nat_Of.f
  rw [clone_eq l h]
  exact Ev.bind (f:=fun _ t=>some t) (trimmed_ev l hx (by omega)) (Ev.now _)
theorem lim_wf (n:Nat):wfW (lim n):=dg_wf W2 n
theorem lim_v (n:Nat):vW (lim n)=n:=dg_vl W2 n
theorem zero_eq (n:Nat):nat_Nat_Zero.f (lim n)=some (decide (n=0)):=by
  unfold nat_Nat_Zero.f
  congr 1
  by_cases h:n=0
  · subst h;unfold lim;rw [dg_zero];rfl
  · unfold lim;rw [dg_pos W2 h];simp [h];omega
theorem limb_eq (l:List Int) (i:Nat):nat_Nat_limb.f l (i:Int)=some (l.getD i 0):=by
  unfold nat_Nat_limb.f
  by_cases h:l.length≤i
  · rw [if_pos (by omega),List.getD_eq_getElem?_getD,List.getElem?_eq_none h];rfl
  · rw [if_neg (by omega),if_pos (by omega),if_pos (by omega),rd_nat]
theorem add64 {x y c:Int} (hx:0≤x) (hy:0≤y) (hc:0≤c):add64s x y c=(x + y + c) % 18446744073709551616∧add64c x y c=(x + y + c) / 18446744073709551616:=by
  unfold add64s add64c
  omega
theorem add64_b {x y c:Int} (hx:0≤x∧x < 18446744073709551616) (hy:0≤y∧y < 18446744073709551616) (hc:0≤c∧c≤1) :
    (0≤add64s x y c∧add64s x y c < 18446744073709551616)∧(0≤add64c x y c∧add64c x y c≤1)∧add64s x y c + 18446744073709551616 * add64c x y c=x + y + c:=by
  obtain ⟨h1,h2⟩:=add64 hx.1 hy.1 hc.1
  rw [h1,h2]
  omega
theorem sub64_b {x y c:Int} (hx:0≤x∧x < 18446744073709551616) (hy:0≤y∧y < 18446744073709551616) (hc:0≤c∧c≤1) :
    (0≤sub64d x y c∧sub64d x y c < 18446744073709551616)∧(0≤sub64b x y c∧sub64b x y c≤1)∧sub64d x y c - 18446744073709551616 * sub64b x y c=x - y - c:=by
  unfold sub64d sub64b
  split <;> omega
structure AddInv (a b x:List Int) (c:Int) (n i:Nat):Prop where
  w:wfW x
  len:x.length=n
  c0:0≤c∧c≤1
  z : ∀ j,i≤j→x.getD j 0=0
  v:vW x + c * ((W:Nat):Int) ^ i=vW (a.take i) + vW (b.take i)
theorem add_l0 (a b:List Int) (ha:wfW a) (hb:wfW b) (n:Nat) (hn:n < 4611686018427387904) (hn2:a.length + 1≤n∧b.length + 1≤n) :
    ∀ d i:Nat,i + d=n→∀ x c,AddInv a b x c n i→Ev (fun k=>nat_Nat_Add.l0 k x c (n:Int) (i:Int) a b) (lim (vW a + vW b).toNat):=by
  intro d
  induction d with
  | zero =>
    intro i hi x c h
    have hi':i=n:=by omega
    subst hi'
    refine Ev.unroll ?_
    simp only [nat_Nat_Add.l0]
    refine Ev.neg (by omega) ?_
    have hv:=h.v
    rw [show vW (a.take i)=vW a from vl_take_ge _ _ _ (by omega),show vW (b.take i)=vW b from vl_take_ge _ _ _ (by omega)] at hv
    have hc:c=0:=by
      have h1:=vl_lt W_pos ha
      have h2:=vl_lt W_pos hb
      have h3:=vl_nonneg W_pos h.w
      have h4:((W:Nat):Int) ^ a.length≤((W:Nat):Int) ^ (i - 1):=by
        rw [← Int.natCast_pow,← Int.natCast_pow];exact Int.ofNat_le.2 (Nat.pow_le_pow_right (by decide) (by omega))
      have h5:((W:Nat):Int) ^ b.length≤((W:Nat):Int) ^ (i - 1):=by
        rw [← Int.natCast_pow,← Int.natCast_pow];exact Int.ofNat_le.2 (Nat.pow_le_pow_right (by decide) (by omega))
      have h6:((W:Nat):Int) ^ i=((W:Nat):Int) ^ (i - 1) * 18446744073709551616:=by
        rw [show i=(i - 1) + 1 by omega,Int.pow_succ];rfl
      have h7:0≤((W:Nat):Int) ^ (i - 1):=Int.pow_nonneg (by decide)
      rcases Int.le_iff_lt_or_eq.1 h.c0.1 with h8|h8
      · have h9:c=1:=by have:=h.c0.2;omega
        rw [h9,h6] at hv
        simp only [vW] at hv
        omega
      · exact h8.symm
    rw [hc,Int.zero_mul,Int.add_zero] at hv
    rw [← hv]
    exact Ev.bind (f:=fun _ t=>some t) (trimmed_ev x h.w (by rw [h.len];exact hn)) (Ev.now _)
  | succ d ih =>
    intro i hi x c h
    refine Ev.unroll ?_
    simp only [nat_Nat_Add.l0]
    refine Ev.pos (by omega) ?_
    have e1:wrap64 ((i:Int) + 1)=((i + 1:Nat):Int):=by rw [wrap_id (by omega)];omega
    simp only [limb_eq,Option.bind_some,e1,Int.toNat_natCast]
    refine Ev.pos h.c0.2 (Ev.pos (by omega) (Ev.pos (by rw [h.len];omega) ?_))
    have wa:=wf_getD W_pos ha i
    have wb:=wf_getD W_pos hb i
    obtain ⟨s1,s2,s3⟩:=add64_b wa wb h.c0
    refine ih (i + 1) (by omega) _ _ ⟨wf_set h.w i s1,by rw [List.length_set,h.len],s2,fun j hj=>by rw [getD_set_ne _ _ _ _ _ (by omega)];exact h.z j (by omega),?_⟩
    have hv:=h.v
    show vl _ _ + _=vl _ _ + vl _ _
    rw [vl_set _ _ _ _ (by rw [h.len];omega),h.z i (Nat.le_refl i),vl_take_succ,vl_take_succ,Int.pow_succ,Int.sub_zero]
    simp only [vW] at hv
    generalize ((W:Nat):Int) ^ i=p at *
    generalize add64s (a.getD i 0) (b.getD i 0) c=s at *
    generalize add64c (a.getD i 0) (b.getD i 0) c=q at *
    have e2:p * (s + 18446744073709551616 * q)=p * (a.getD i 0 + b.getD i 0 + c):=by rw [s3]
    simp only [W_int] at *
    grind
theorem add_ev (a b:List Int) (ha:wfW a) (hb:wfW b) (la:a.length≤1099511627776) (lb:b.length≤1099511627776):Ev (fun k=>nat_Nat_Add.f k a b) (lim (vW a + vW b).toNat):=by
  unfold nat_Nat_Add.f
  have e1:wrap64 (mx (a.length:Int) (b.length:Int) + 1)=((max a.length b.length + 1:Nat):Int):=by rw [mx_eq,wrap_id (by omega)];omega
  simp only [e1,Int.toNat_natCast,Option.bind_some,List.length_replicate]
  refine Ev.pos (by omega) (Ev.pos (by omega) ?_)
  refine add_l0 a b ha hb (max a.length b.length + 1) (by omega) (by omega) _ 0 (Nat.zero_add _) _ _ ⟨wf_replicate W_pos _,List.length_replicate,by omega,fun j _=>?_,?_⟩
  · rw [List.getD_eq_getElem?_getD,List.getElem?_replicate];split <;> rfl
  · show vl _ _ + _=vl _ _ + vl _ _
    rw [vl_replicate]
    rfl
end Go.Proofs.YtakidmbnkkhojaaGreatM
end

section
namespace Go.Proofs.YtakidmbnkkhojaaGreatM
open Go.RowKit Go.Proofs.YtakidmbnkkhojaaGreatW.PrintWords Go.Proofs.YtakidmbnkkhojaaGreatW.PrintLast Go.Proofs.YtakidmbnkkhojaaGreatW.PrintMore
set_option linter.unusedVariables false
set_option linter.unusedSimpArgs false
theorem u16_of {x:Int} (h:(Lit.int .u16 x).wf=true):0≤x∧x≤65535:=by
  simp [Lit.wf,IntKind.min,IntKind.max,IntKind.signed,IntKind.bits] at h
  exact h
theorem u8_of {x:Int} (h:(Lit.int .u8 x).wf=true):0≤x∧x≤255:=by
  simp [Lit.wf,IntKind.min,IntKind.max,IntKind.signed,IntKind.bits] at h
  exact h
theorem tmod_pos_ {a:Int} (b:Int) (h:0≤a):Int.tmod a b=a % b:=Int.tmod_eq_emod_of_nonneg h
theorem tdiv_pos_ {a:Int} (b:Int) (h:0≤a):Int.tdiv a b=a / b:=Int.tdiv_eq_ediv_of_nonneg h
end Go.Proofs.YtakidmbnkkhojaaGreatM
end

section
namespace Go.Proofs.YtakidmbnkkhojaaGreatM
open Go.RowKit Go.Proofs.YtakidmbnkkhojaaGreatW.PrintWords Go.Proofs.YtakidmbnkkhojaaGreatW.PrintLast Go.Proofs.YtakidmbnkkhojaaGreatW.PrintMore Go.Proofs.YtakidmbnkkhojaaGreatX Go.Proofs.YtakidmbnkkhojaaGreat.F
set_option linter.unusedVariables false
set_option linter.unusedSimpArgs false
def leap (y:Int):Bool:=decide ((y % 4=0∧y % 100≠0)∨y % 400=0)
def dm (y m:Int):Int:=if m=2 then (if leap y=true then 29 else 28) else if m=4∨m=6∨m=9∨m=11 then 30 else 31
def days (y m:Int):Int:=if 1≤y∧y≤9999∧1≤m∧m≤12 then dm y m else 0
def Right (y m d:Int):Prop:=1≤d∧d≤days y m
instance (y m d:Int):Decidable (Right y m d):=inferInstanceAs (Decidable (_∧_))
theorem dm_bd (y m:Int):28≤dm y m∧dm y m≤31:=by unfold dm;repeat' split <;> omega
theorem days_in {y m:Int} (h:1≤y∧y≤9999) (h2:1≤m∧m≤12):days y m=dm y m:=if_pos ⟨h.1,h.2,h2.1,h2.2⟩
theorem days_bd (y m:Int):0≤days y m∧days y m≤31:=by
  unfold days
  have:=dm_bd y m
  split <;> omega
theorem Right.in_ {y m d:Int} (h:Right y m d):(1≤y∧y≤9999)∧(1≤m∧m≤12)∧1≤d∧d≤31:=by
  obtain ⟨h1,h2⟩:=h
  have:=days_bd y m
  unfold days at h2 this
  split at h2
  · rename_i h3
    rw [if_pos h3] at this
    exact ⟨⟨h3.1,h3.2.1⟩,⟨h3.2.2.1,h3.2.2.2⟩,h1,by omega⟩
  · omega
theorem date_leap (y:Int):date_Leap.f y=some (decide (1≤y∧y≤9999) && leap y):=by
  unfold date_Leap.f date_good.f
  by_cases h1:1≤y
  · rw [if_pos h1,Option.bind_some]
    by_cases h2:y≤9999
    · rw [decide_eq_true h2,if_pos rfl,tmod_pos_ _ (by omega),tmod_pos_ _ (by omega),tmod_pos_ _ (by omega)]
      unfold leap
      by_cases a:y % 4=0
      · rw [if_pos a]
        by_cases b:y % 100=0
        · rw [if_pos b]
          by_cases c:y % 400=0 <;> simp [a,b,c,h1,h2]
        · rw [if_neg b]
          simp [a,b,h1,h2]
      · rw [if_neg a]
        have c : ¬ y % 400=0:=by omega
        simp [a,c,h1,h2]
    · rw [decide_eq_false h2,if_neg (by decide)]
      simp [h2]
  · rw [if_neg h1,Option.bind_some,if_neg (by decide)]
    simp [h1]
theorem tab12 {m:Int} (h:1≤m∧m≤12):0≤wrap64 (m - 1)∧wrap64 (m - 1) < 12 ∧
    rd ([31,28,31,30,31,30,31,31,30,31,30,31]:List Int) (wrap64 (m - 1))=if m=2 then 28 else if m=4∨m=6∨m=9∨m=11 then 30 else 31:=by
  have:m=1∨m=2∨m=3∨m=4∨m=5∨m=6∨m=7∨m=8∨m=9∨m=10∨m=11∨m=12:=by omega
  rcases this with h|h|h|h|h|h|h|h|h|h|h|h <;> (subst h;decide +kernel)
theorem date_days (y m:Int) (k:Nat) (hk:0 < k):date_Days.f k y m=some (days y m):=by
  obtain ⟨k,rfl⟩ : ∃ j,k=j + 1:=⟨k - 1,by omega⟩
  unfold date_Days.f date_good.f days
  by_cases h1:1≤y
  · rw [if_pos h1,Option.bind_some]
    by_cases h2:y≤9999
    · rw [decide_eq_true h2,if_pos rfl]
      by_cases h3:m < 1
      · rw [if_pos h3,if_neg (by omega)]
        simp only [date_Days.j0,if_true]
      · rw [if_neg h3]
        by_cases h4:m > 12
        · rw [decide_eq_true h4,if_neg (by omega)]
          simp only [date_Days.j0,if_true]
        · rw [decide_eq_false h4,if_pos ⟨h1,h2,by omega,by omega⟩]
          obtain ⟨t1,t2,t3⟩:=tab12 (m:=m) (by omega)
          simp only [date_Days.j0,date_leap,Option.bind_some,if_pos t1,if_pos t2,t3]
          rw [if_neg (by decide)]
          unfold dm
          by_cases h5:m=2
          · simp only [if_pos h5,decide_eq_true (show 1≤y∧y≤9999 from ⟨h1,h2⟩),Bool.true_and]
            split <;> rfl
          · simp only [if_neg h5]
    · rw [decide_eq_false h2,if_neg (by decide),if_neg (by omega)]
      simp only [date_Days.j0,if_true]
  · rw [if_neg h1,Option.bind_some,if_neg (by decide),if_neg (by omega)]
    simp only [date_Days.j0,if_true]
theorem date_check (y m d:Int) (k:Nat) (hk:0 < k):date_Check.f k y m d=some (if Right y m d then 0 else 11):=by
  unfold date_Check.f
  by_cases h:d < 1
  · rw [if_pos h,if_neg (fun h2:Right y m d=>by have:=h2.1;omega)]
  · rw [if_neg h,date_days y m k hk,Option.bind_some]
    by_cases h2:d > days y m
    · rw [if_pos h2,if_neg (fun h3:Right y m d=>by have:=h3.2;omega)]
    · rw [if_neg h2,if_pos (show Right y m d from ⟨by omega,by omega⟩)]
theorem ref_leap (y:Int) (k:Nat) (hk:0 < k):chattelref09_Leap.f k y=some (decide (1≤y∧y≤9999) && leap y):=by
  obtain ⟨k,rfl⟩ : ∃ j,k=j + 1:=⟨k - 1,by omega⟩
  unfold chattelref09_Leap.f
  by_cases h1:y < 1
  · rw [if_pos h1]
    simp only [chattelref09_Leap.j0,if_true]
    rw [decide_eq_false (by omega)]
    rfl
  · rw [if_neg h1]
    by_cases h2:y > 9999
    · rw [decide_eq_true h2,decide_eq_false (by omega)]
      simp only [chattelref09_Leap.j0,if_true]
      rfl
    · rw [decide_eq_false h2,decide_eq_true (by omega)]
      simp only [chattelref09_Leap.j0]
      rw [if_neg (by decide),tmod_pos_ _ (by omega),tmod_pos_ _ (by omega),tmod_pos_ _ (by omega)]
      unfold leap
      by_cases a:y % 400=0
      · simp [a]
      · rw [if_neg a]
        by_cases b:y % 4=0
        · rw [if_pos b]
          by_cases c:y % 100=0 <;> simp [a,b,c]
        · simp [a,b]
theorem ref_days (y m:Int) (k:Nat) (hk:1 < k):chattelref09_Days.f k y m=some (days y m):=by
  obtain ⟨k,rfl⟩ : ∃ j,k=j + 1:=⟨k - 1,by omega⟩
  unfold chattelref09_Days.f days
  by_cases h1:y < 1
  · rw [if_pos h1,if_neg (by omega)]
    simp only [chattelref09_Days.j0,if_true]
  · rw [if_neg h1]
    by_cases h2:y > 9999
    · rw [if_pos h2,if_neg (by omega)]
      simp only [chattelref09_Days.j0,if_true]
    · rw [if_neg h2]
      by_cases h3:m < 1
      · rw [if_pos h3,if_neg (by omega)]
        simp only [chattelref09_Days.j0,if_true]
      · rw [if_neg h3]
        by_cases h4:m > 12
        · rw [decide_eq_true h4,if_neg (by omega)]
          simp only [chattelref09_Days.j0,if_true]
        · rw [decide_eq_false h4,if_pos ⟨by omega,by omega,by omega,by omega⟩]
          simp only [chattelref09_Days.j0,ref_leap y k (by omega),Option.bind_some,decide_eq_true (show 1≤y∧y≤9999 by omega),Bool.true_and]
          rw [if_neg (by decide)]
          unfold dm
          by_cases h5:m=2
          · simp only [if_pos h5]
            split <;> rfl
          · simp only [if_neg h5]
            by_cases a:m=4
            · simp [a]
            · by_cases b:m=6
              · simp [b]
              · by_cases c:m=9
                · simp [c]
                · by_cases d:m=11
                  · simp [d]
                  · simp [a,b,c,d]
def made (a b c n:Int):Int×Int×Int:=(a % n + 1,b % 12 + 1,c % days (a % n + 1) (b % 12 + 1) + 1)
theorem tmod_fix (a:Int) {n:Int} (hn:0 < n):(if Int.tmod a n < 0 then Int.tmod a n + n else Int.tmod a n)=a % n:=by
  rw [Int.tmod_eq_emod]
  have h1:=Int.emod_nonneg a (show n≠0 by omega)
  have h2:=Int.emod_lt_of_pos a hn
  split <;> split <;> omega
theorem tmod_n {a n:Int} (hn:0 < n) (hm:n≤10000) (h:Int.tmod a n < 0):wrap64 (Int.tmod a n + n)=a % n:=by
  have h1:=tmod_fix a hn
  rw [if_pos h] at h1
  have h2:=Int.emod_nonneg a (show n≠0 by omega)
  have h3:=Int.emod_lt_of_pos a hn
  rw [wrap_id (by omega),h1]
theorem tmod_p {a n:Int} (hn:0 < n) (h : ¬ Int.tmod a n < 0):Int.tmod a n=a % n:=by
  have h1:=tmod_fix a hn
  rw [if_neg h] at h1
  exact h1
theorem make_days (y m c:Int) (k:Nat) (hk:1 < k) (hy:1≤y∧y≤9999) (hm:1≤m∧m≤12) :
    ((chattelref09_Days.f k y m).bind fun t=>if t=0 then (none:Option (Int×Int×Int)) else if Int.tmod c t < 0 then some (y,m,wrap64 (wrap64 (Int.tmod c t + t) + 1)) else some (y,m,wrap64 (Int.tmod c t + 1)))=some (y,m,c % days y m + 1):=by
  rw [ref_days y m k hk,Option.bind_some]
  have h1:=days_in hy hm
  have h2:=dm_bd y m
  generalize days y m=t at *
  rw [if_neg (by omega)]
  have h3:=Int.emod_nonneg c (show t≠0 by omega)
  have h4:=Int.emod_lt_of_pos c (show 0 < t by omega)
  by_cases h:Int.tmod c t < 0
  · rw [if_pos h,tmod_n (by omega) (by omega) h,wrap_id (by omega)]
  · rw [if_neg h,tmod_p (by omega) h,wrap_id (by omega)]
theorem make_eq (a b c n:Int) (hn:0 < n) (hn2:n≤9999) (k:Nat) (hk:2 < k):chattelref09_Make.f k a b c n=some (made a b c n):=by
  obtain ⟨k,rfl⟩ : ∃ j,k=j + 1:=⟨k - 1,by omega⟩
  unfold chattelref09_Make.f
  rw [if_neg (by omega)]
  have h1:=Int.emod_nonneg a (show n≠0 by omega)
  have h2:=Int.emod_lt_of_pos a hn
  have h3:=Int.emod_nonneg b (show (12:Int)≠0 by omega)
  have h4:=Int.emod_lt_of_pos b (show (0:Int) < 12 by omega)
  have hj:chattelref09_Make.j0 (k + 1) (a % n) a b c=some (made a b c n):=by
    simp only [chattelref09_Make.j0]
    rw [wrap_id (x:=a % n + 1) (by omega)]
    by_cases h:Int.tmod b 12 < 0
    · rw [if_pos h,tmod_n (by omega) (by omega) h,wrap_id (x:=b % 12 + 1) (by omega)]
      exact make_days _ _ c k (by omega) (by omega) (by omega)
    · rw [if_neg h,tmod_p (by omega) h,wrap_id (x:=b % 12 + 1) (by omega)]
      exact make_days _ _ c k (by omega) (by omega) (by omega)
  by_cases h:Int.tmod a n < 0
  · rw [if_pos h,tmod_n hn (by omega) h]
    exact hj
  · rw [if_neg h,tmod_p hn h]
    exact hj
theorem made_right (a b c n:Int) (hn:0 < n) (hn2:n≤9999):Right (made a b c n).1 (made a b c n).2.1 (made a b c n).2.2∧(made a b c n).1≤n:=by
  have h1:=Int.emod_nonneg a (show n≠0 by omega)
  have h2:=Int.emod_lt_of_pos a hn
  have h3:=Int.emod_nonneg b (show (12:Int)≠0 by omega)
  have h4:=Int.emod_lt_of_pos b (show (0:Int) < 12 by omega)
  have h5:=days_in (y:=a % n + 1) (m:=b % 12 + 1) (by omega) (by omega)
  have h6:=dm_bd (a % n + 1) (b % 12 + 1)
  unfold made Right
  simp only
  generalize days (a % n + 1) (b % 12 + 1)=t at *
  have h7:=Int.emod_nonneg c (show t≠0 by omega)
  have h8:=Int.emod_lt_of_pos c (show 0 < t by omega)
  omega
theorem ref_right (y m d:Int) (k:Nat) (hk:1 < k):chattelref09_Right.f k y m d=some (decide (Right y m d)):=by
  unfold chattelref09_Right.f
  rw [ref_days y m k hk,Option.bind_some]
  unfold Right
  by_cases h:d ≥ 1
  · rw [if_pos h]
    simp [h]
  · rw [if_neg h]
    simp [h]
def aheadOf (y:Int):Int:=365 * (y - 1) + (y - 1) / 4 - (y - 1) / 100 + (y - 1) / 400
theorem ahead_eq (y:Int) (h:1≤y∧y≤10000):date_ahead.f y=some (aheadOf y):=by
  unfold date_ahead.f aheadOf
  have e0:wrap64 (y - 1)=y - 1:=wrap_id (by omega)
  rw [e0,tdiv_pos_ _ (by omega),tdiv_pos_ _ (by omega),tdiv_pos_ _ (by omega)]
  have hz:0≤y - 1∧y - 1≤9999:=by omega
  clear e0
  generalize y - 1=z at *
  rw [wrap_id (x:=365 * z) (by omega),wrap_id (x:=z / 4) (by omega),wrap_id (x:=z / 100) (by omega),wrap_id (x:=z / 400) (by omega),wrap_id (x:=365 * z + z / 4) (by omega),wrap_id (x:=365 * z + z / 4 - z / 100) (by omega),wrap_id (by omega)]
theorem ahead_bd (y:Int) (h:1≤y∧y≤10000):0≤aheadOf y∧aheadOf y≤3652059:=by unfold aheadOf;omega
def mdays (y:Int):Nat→Int
  | 0=>0
  | t + 1=>mdays y t + days y ((t + 1:Nat):Int)
theorem mdays_bd (y:Int) : ∀ t:Nat,0≤mdays y t∧mdays y t≤31 * t
  | 0=>by simp [mdays]
  | t + 1=>by
    have:=mdays_bd y t
    have:=days_bd y ((t + 1:Nat):Int)
    unfold mdays
    omega
def num (y m d:Int):Int:=aheadOf y + mdays y (m - 1).toNat + d
theorem number_l0 (y d:Int) (M:Nat) (hM:M≤11) (hd:0≤d∧d≤31) (b:Int) (hb:0≤b∧b≤3652059) (r:Nat) : ∀ (t:Nat),t + r=M→∀ k,r + 1 < k →
    date_Number.l0 k (b + mdays y t) ((t + 1:Nat):Int) y ((M + 1:Nat):Int) d=some (b + mdays y M + d,0):=by
  induction r with
  | zero =>
    intro t h k hk
    obtain ⟨k,rfl⟩ : ∃ q,k=q + 1:=⟨k - 1,by omega⟩
    have ht:t=M:=by omega
    subst ht
    have:=mdays_bd y t
    simp only [date_Number.l0]
    rw [if_neg (by omega),wrap_id (by omega)]
  | succ r ih =>
    intro t h k hk
    obtain ⟨k,rfl⟩ : ∃ q,k=q + 1:=⟨k - 1,by omega⟩
    have h1:=mdays_bd y t
    have h2:=days_bd y ((t + 1:Nat):Int)
    have h3:b + mdays y t + days y ((t + 1:Nat):Int)=b + mdays y (t + 1):=by rw [mdays,Int.add_assoc]
    simp only [date_Number.l0]
    rw [if_pos (by omega),date_days y _ k (by omega),Option.bind_some,wrap_id (by omega),wrap_id (x:=((t + 1:Nat):Int) + 1) (by omega),h3]
    exact ih (t + 1) (by omega) k (by omega)
theorem number_eq (y m d:Int) (k:Nat) (hk:14 < k):date_Number.f k y m d=some (if Right y m d then (num y m d,0) else (0,11)):=by
  unfold date_Number.f
  rw [date_check y m d k (by omega),Option.bind_some]
  by_cases h:Right y m d
  · obtain ⟨hy,hm,hd⟩:=h.in_
    rw [if_pos h,if_pos rfl,if_pos h,ahead_eq y (by omega),Option.bind_some]
    obtain ⟨M,hM⟩ : ∃ M:Nat,m=((M + 1:Nat):Int):=⟨(m - 1).toNat,by omega⟩
    have:=number_l0 y d M (by omega) (by omega) (aheadOf y) (ahead_bd y (by omega)) M 0 (by omega) k (by omega)
    rw [mdays,Int.add_zero,← hM] at this
    unfold num
    rw [show (m - 1).toNat=M by omega]
    exact this
  · rw [if_neg h,if_neg (by decide),if_neg h]
theorem num_bd {y m d:Int} (h:Right y m d):1≤num y m d∧num y m d≤4000000:=by
  obtain ⟨hy,hm,hd⟩:=h.in_
  have h1:=ahead_bd y (by omega)
  have h2:=mdays_bd y (m - 1).toNat
  unfold num
  omega
theorem between_eq (y m d y2 m2 d2:Int) (k:Nat) (hk:14 < k):month_Between.f k y m d y2 m2 d2 =
    some (if Right y m d then (if Right y2 m2 d2 then (num y2 m2 d2 - num y m d,0) else (0,11)) else (0,11)):=by
  unfold month_Between.f
  rw [number_eq y m d k hk,Option.bind_some]
  by_cases h:Right y m d
  · rw [if_pos h,if_pos h]
    simp only [if_true]
    rw [number_eq y2 m2 d2 k hk,Option.bind_some]
    by_cases h2:Right y2 m2 d2
    · have b1:=num_bd h
      have b2:=num_bd h2
      rw [if_pos h2,if_pos h2]
      simp only [if_true]
      rw [wrap_id (by omega)]
    · rw [if_neg h2,if_neg h2]
      simp only
      rw [if_neg (by decide)]
  · rw [if_neg h,if_neg h]
    simp only
    rw [if_neg (by decide)]
theorem ahead_step (y:Int) (h:1≤y):aheadOf (y + 1)=aheadOf y + (if leap y=true then 366 else 365):=by
  unfold aheadOf leap
  by_cases a:y % 4=0
  · by_cases b:y % 100=0
    · by_cases c:y % 400=0
      · simp only [a,b,c]
        simp
        omega
      · simp only [a,b,c]
        simp
        omega
    · have c : ¬ y % 400=0:=by omega
      simp only [a,b,c]
      simp
      omega
  · have b : ¬ y % 100=0:=by omega
    have c : ¬ y % 400=0:=by omega
    simp only [a,b,c]
    simp
    omega
theorem year_days {y:Int} (h:1≤y∧y≤9999):mdays y 12=(if leap y=true then 366 else 365):=by
  simp only [mdays]
  simp only [days_in h (show 1≤((1:Nat):Int)∧((1:Nat):Int)≤12 by omega),days_in h (show 1≤((2:Nat):Int)∧((2:Nat):Int)≤12 by omega),days_in h (show 1≤((3:Nat):Int)∧((3:Nat):Int)≤12 by omega),days_in h (show 1≤((4:Nat):Int)∧((4:Nat):Int)≤12 by omega),days_in h (show 1≤((5:Nat):Int)∧((5:Nat):Int)≤12 by omega),days_in h (show 1≤((6:Nat):Int)∧((6:Nat):Int)≤12 by omega),days_in h (show 1≤((7:Nat):Int)∧((7:Nat):Int)≤12 by omega),days_in h (show 1≤((8:Nat):Int)∧((8:Nat):Int)≤12 by omega),days_in h (show 1≤((9:Nat):Int)∧((9:Nat):Int)≤12 by omega),days_in h (show 1≤((10:Nat):Int)∧((10:Nat):Int)≤12 by omega),days_in h (show 1≤((11:Nat):Int)∧((11:Nat):Int)≤12 by omega),days_in h (show 1≤((12:Nat):Int)∧((12:Nat):Int)≤12 by omega)]
  cases e:leap y <;> simp [dm,e]
theorem ahead_next {y:Int} (h:1≤y∧y≤9999):aheadOf (y + 1)=aheadOf y + mdays y 12:=by
  rw [ahead_step y h.1,year_days h]
theorem mdays_le (y:Int) (t:Nat) : ∀ s:Nat,mdays y t≤mdays y (t + s)
  | 0=>by simp
  | s + 1=>by
    have h1:=mdays_le y t s
    have h2:=days_bd y ((t + s + 1:Nat):Int)
    rw [show t + (s + 1)=(t + s) + 1 by omega,mdays]
    omega
theorem mdays_mono (y:Int) {t s:Nat} (h:t≤s):mdays y t≤mdays y s:=by
  have:=mdays_le y t (s - t)
  rwa [show t + (s - t)=s by omega] at this
theorem ahead_le (y:Int) (hy:1≤y) : ∀ s:Nat,aheadOf y + 365 * s≤aheadOf (y + s)
  | 0=>by simp
  | s + 1=>by
    have h1:=ahead_le y hy s
    have h2:=ahead_step (y + s) (by omega)
    rw [show y + ((s + 1:Nat):Int)=y + s + 1 by omega,h2]
    split <;> omega
theorem ahead_mono {y z:Int} (hy:1≤y) (h:y≤z):aheadOf y≤aheadOf z:=by
  have:=ahead_le y hy (z - y).toNat
  rw [show y + (((z - y).toNat:Nat):Int)=z by omega] at this
  omega
theorem num_in {y m d:Int} (h:Right y m d):aheadOf y < num y m d∧num y m d≤aheadOf (y + 1)∧num y m d≤aheadOf y + mdays y m.toNat:=by
  obtain ⟨hy,hm,hd⟩:=h.in_
  have h1:=(mdays_bd y (m - 1).toNat).1
  have h2:mdays y m.toNat=mdays y (m - 1).toNat + days y m:=by
    rw [show m.toNat=(m - 1).toNat + 1 by omega,mdays,show (((m - 1).toNat + 1:Nat):Int)=m by omega]
  have h3:=mdays_mono y (show m.toNat≤12 by omega)
  have h4:=ahead_next hy
  have h5:=h.2
  unfold num
  omega
theorem num_top {y m d:Int} (h:Right y m d):1≤num y m d∧num y m d≤3652059:=by
  obtain ⟨hy,hm,hd⟩:=h.in_
  have h1:=num_in h
  have h2:=ahead_bd y (by omega)
  have h3:=ahead_bd (y + 1) (by omega)
  omega
theorem num_year {y m d y2 m2 d2:Int} (h:Right y m d) (h2:Right y2 m2 d2) (hl:y < y2):num y m d < num y2 m2 d2:=by
  obtain ⟨hy,hm,hd⟩:=h.in_
  have a:=num_in h
  have b:=num_in h2
  have c:=ahead_mono (y:=y + 1) (z:=y2) (by omega) (by omega)
  omega
theorem num_month {y m d m2 d2:Int} (h:Right y m d) (h2:Right y m2 d2) (hl:m < m2):num y m d < num y m2 d2:=by
  obtain ⟨hy,hm,hd⟩:=h.in_
  obtain ⟨hy2,hm2,hd2⟩:=h2.in_
  have a:=num_in h
  have c:=mdays_mono y (show m.toNat≤(m2 - 1).toNat by omega)
  have e:num y m2 d2=aheadOf y + mdays y (m2 - 1).toNat + d2:=rfl
  omega
theorem num_day {y m d d2:Int} (hl:d < d2):num y m d < num y m d2:=by unfold num;omega
theorem refnum_l1 (y d:Int) (M:Nat) (hM:M≤11) (hd:0≤d∧d≤31) (b:Int) (hb:0≤b∧b≤3652059) (r:Nat) : ∀ (t:Nat),t + r=M→∀ k,r + 2 < k →
    chattelref09_Number.l1 k (b + mdays y t) ((t + 1:Nat):Int) y ((M + 1:Nat):Int) d=some (b + mdays y M + d):=by
  induction r with
  | zero =>
    intro t h k hk
    obtain ⟨k,rfl⟩ : ∃ q,k=q + 1:=⟨k - 1,by omega⟩
    have ht:t=M:=by omega
    subst ht
    have:=mdays_bd y t
    simp only [chattelref09_Number.l1]
    rw [if_neg (by omega),wrap_id (by omega)]
  | succ r ih =>
    intro t h k hk
    obtain ⟨k,rfl⟩ : ∃ q,k=q + 1:=⟨k - 1,by omega⟩
    have h1:=mdays_bd y t
    have h2:=days_bd y ((t + 1:Nat):Int)
    have h3:b + mdays y t + days y ((t + 1:Nat):Int)=b + mdays y (t + 1):=by rw [mdays,Int.add_assoc]
    simp only [chattelref09_Number.l1]
    rw [if_pos (by omega),ref_days y _ k (by omega),Option.bind_some,wrap_id (by omega),wrap_id (x:=((t + 1:Nat):Int) + 1) (by omega),h3]
    exact ih (t + 1) (by omega) k (by omega)
theorem refnum_l0 {y m d:Int} (h:Right y m d) (r:Nat) : ∀ x:Int,1≤x→x + r=y→∀ k,r + 20 < k→chattelref09_Number.l0 k (aheadOf x) x y m d=some (num y m d):=by
  obtain ⟨hy,hm,hd⟩:=h.in_
  induction r with
  | zero =>
    intro x h1 h2 k hk
    obtain ⟨k,rfl⟩ : ∃ q,k=q + 1:=⟨k - 1,by omega⟩
    have hx:x=y:=by omega
    subst hx
    simp only [chattelref09_Number.l0]
    rw [if_neg (by omega)]
    obtain ⟨M,hM⟩ : ∃ M:Nat,m=((M + 1:Nat):Int):=⟨(m - 1).toNat,by omega⟩
    have:=refnum_l1 x d M (by omega) (by omega) (aheadOf x) (ahead_bd x (by omega)) M 0 (by omega) k (by omega)
    rw [mdays,Int.add_zero,← hM] at this
    unfold num
    rw [show (m - 1).toNat=M by omega]
    exact this
  | succ r ih =>
    intro x h1 h2 k hk
    obtain ⟨k,rfl⟩ : ∃ q,k=q + 1:=⟨k - 1,by omega⟩
    have hb:=ahead_bd x (by omega)
    have hs:=ahead_step x h1
    have e:=ih (x + 1) (by omega) (by omega) k (by omega)
    simp only [chattelref09_Number.l0]
    rw [if_pos (by omega),ref_leap x k (by omega),Option.bind_some,decide_eq_true (show 1≤x∧x≤9999 by omega),Bool.true_and,wrap_id (x:=x + 1) (by omega),wrap_id (x:=aheadOf x + 365) (by omega),wrap_id (x:=aheadOf x + 365 + 1) (by omega)]
    by_cases hl:leap x=true
    · rw [if_pos hl] at hs ⊢
      rw [show aheadOf x + 365 + 1=aheadOf (x + 1) by omega]
      exact e
    · rw [if_neg hl] at hs ⊢
      rw [show aheadOf x + 365=aheadOf (x + 1) by omega]
      exact e
theorem refnum_eq {y m d:Int} (h:Right y m d) (k:Nat) (hk:10100 < k):chattelref09_Number.f k y m d=some (num y m d):=by
  obtain ⟨hy,hm,hd⟩:=h.in_
  unfold chattelref09_Number.f
  exact refnum_l0 h (y - 1).toNat 1 (by omega) (by omega) k (by omega)
theorem of_l2 {y:Int} (hy:1≤y∧y≤9999) (r:Nat) : ∀ (t:Nat) (n:Int),t + r=12→1≤n→n + mdays y t≤mdays y 12 →
    ∃ m d,Right y m d∧mdays y (m - 1).toNat + d=mdays y t + n∧∀ x k,r + 2 < k→date_Of.l2 k n y ((t + 1:Nat):Int) x=some (y,m,d,0):=by
  induction r with
  | zero =>
    intro t n h h1 h2
    have:t=12:=by omega
    subst this
    omega
  | succ r ih =>
    intro t n h h1 h2
    have hm:mdays y (t + 1)=mdays y t + days y ((t + 1:Nat):Int):=rfl
    have hd:=days_in hy (m:=((t + 1:Nat):Int)) (by omega)
    have hb:=dm_bd y ((t + 1:Nat):Int)
    have hw:=days_bd y ((t + 1:Nat):Int)
    by_cases hn:n > days y ((t + 1:Nat):Int)
    · obtain ⟨m,d,e1,e2,e3⟩:=ih (t + 1) (n - days y ((t + 1:Nat):Int)) (by omega) (by omega) (by omega)
      refine ⟨m,d,e1,by omega,fun x k hk=>?_⟩
      obtain ⟨k,rfl⟩ : ∃ q,k=q + 1:=⟨k - 1,by omega⟩
      have h3:=mdays_bd y 12
      have h4:=mdays_bd y t
      simp only [date_Of.l2]
      rw [date_days y _ k (by omega),Option.bind_some,if_pos hn,Option.bind_some,wrap_id (by omega),wrap_id (by omega)]
      exact e3 x k (by omega)
    · refine ⟨((t + 1:Nat):Int),n,⟨h1,by omega⟩,?_,fun x k hk=>?_⟩
      · rw [show (((t + 1:Nat):Int) - 1).toNat=t by omega]
      · obtain ⟨k,rfl⟩ : ∃ q,k=q + 1:=⟨k - 1,by omega⟩
        simp only [date_Of.l2]
        rw [date_days y _ k (by omega),Option.bind_some,if_neg hn]
theorem of_j3 {y n:Int} (hy:1≤y∧y≤9999) (h1:aheadOf y < n) (h2:n≤aheadOf (y + 1)) :
    ∃ m d,Right y m d∧num y m d=n∧∀ x k,20 < k→date_Of.j3 k n y 1 x=some (y,m,d,0):=by
  have hs:=ahead_next hy
  obtain ⟨m,d,e1,e2,e3⟩:=of_l2 hy 12 0 (n - aheadOf y) (by omega) (by omega) (by rw [mdays];omega)
  refine ⟨m,d,e1,?_,fun x k hk=>?_⟩
  · rw [mdays] at e2
    unfold num
    omega
  · obtain ⟨k,rfl⟩ : ∃ q,k=q + 1:=⟨k - 1,by omega⟩
    have hb:=ahead_bd y (by omega)
    have hc:=ahead_bd (y + 1) (by omega)
    simp only [date_Of.j3]
    rw [ahead_eq y (by omega),Option.bind_some,wrap_id (by omega)]
    exact e3 x k (by omega)
theorem of_l1 {n:Int} (hn:1≤n∧n≤3652059) (r:Nat) : ∀ y:Int,1≤y→y + r=9999→aheadOf y < n →
    ∃ z m d,Right z m d∧num z m d=n∧∀ x k,r + 30 < k→date_Of.l1 k n y 1 x=some (z,m,d,0):=by
  induction r with
  | zero =>
    intro y h1 h2 h3
    have:y=9999:=by omega
    subst this
    obtain ⟨m,d,e1,e2,e3⟩:=of_j3 (y:=9999) (n:=n) (by omega) h3 (by rw [show aheadOf (9999 + 1)=3652059 by decide];omega)
    refine ⟨9999,m,d,e1,e2,fun x k hk=>?_⟩
    obtain ⟨k,rfl⟩ : ∃ q,k=q + 1:=⟨k - 1,by omega⟩
    simp only [date_Of.l1]
    rw [if_neg (by omega)]
    exact e3 x k (by omega)
  | succ r ih =>
    intro y h1 h2 h3
    by_cases h:aheadOf (y + 1) < n
    · obtain ⟨z,m,d,e1,e2,e3⟩:=ih (y + 1) (by omega) (by omega) h
      refine ⟨z,m,d,e1,e2,fun x k hk=>?_⟩
      obtain ⟨k,rfl⟩ : ∃ q,k=q + 1:=⟨k - 1,by omega⟩
      simp only [date_Of.l1]
      rw [if_pos (by omega),wrap_id (x:=y + 1) (by omega),ahead_eq (y + 1) (by omega),Option.bind_some,if_pos h]
      exact e3 x k (by omega)
    · obtain ⟨m,d,e1,e2,e3⟩:=of_j3 (y:=y) (n:=n) (by omega) h3 (by omega)
      refine ⟨y,m,d,e1,e2,fun x k hk=>?_⟩
      obtain ⟨k,rfl⟩ : ∃ q,k=q + 1:=⟨k - 1,by omega⟩
      simp only [date_Of.l1]
      rw [if_pos (by omega),wrap_id (x:=y + 1) (by omega),ahead_eq (y + 1) (by omega),Option.bind_some,if_neg h]
      exact e3 x k (by omega)
theorem of_l0 {n:Int} (hn:1≤n∧n≤3652059) (r:Nat) : ∀ y:Int,y=r + 1→y≤9999 →
    ∃ z m d,Right z m d∧num z m d=n∧∀ x k,r + 10100 < k→date_Of.l0 k n y 1 x=some (z,m,d,0):=by
  induction r with
  | zero =>
    intro y h1 h2
    have:y=1:=by omega
    subst this
    obtain ⟨z,m,d,e1,e2,e3⟩:=of_l1 hn 9998 1 (by omega) (by omega) (by rw [show aheadOf 1=0 by decide];omega)
    refine ⟨z,m,d,e1,e2,fun x k hk=>?_⟩
    obtain ⟨k,rfl⟩ : ∃ q,k=q + 1:=⟨k - 1,by omega⟩
    simp only [date_Of.l0]
    rw [ahead_eq 1 (by omega),Option.bind_some,show aheadOf 1=0 by decide,if_neg (by omega)]
    exact e3 x k (by omega)
  | succ r ih =>
    intro y h1 h2
    by_cases h:aheadOf y ≥ n
    · obtain ⟨z,m,d,e1,e2,e3⟩:=ih (y - 1) (by omega) (by omega)
      refine ⟨z,m,d,e1,e2,fun x k hk=>?_⟩
      obtain ⟨k,rfl⟩ : ∃ q,k=q + 1:=⟨k - 1,by omega⟩
      simp only [date_Of.l0]
      rw [ahead_eq y (by omega),Option.bind_some,if_pos h,wrap_id (by omega)]
      exact e3 x k (by omega)
    · obtain ⟨z,m,d,e1,e2,e3⟩:=of_l1 hn (9999 - y).toNat y (by omega) (by omega) (by omega)
      refine ⟨z,m,d,e1,e2,fun x k hk=>?_⟩
      obtain ⟨k,rfl⟩ : ∃ q,k=q + 1:=⟨k - 1,by omega⟩
      simp only [date_Of.l0]
      rw [ahead_eq y (by omega),Option.bind_some,if_neg h]
      exact e3 x k (by omega)
theorem of_eq {n:Int} (hn:1≤n∧n≤3652059) : ∃ y m d,Right y m d∧num y m d=n∧∀ k,20200 < k→date_Of.f k n=some (y,m,d,0):=by
  have hq:0≤n * 400 / 146097∧n * 400 / 146097≤10000:=by omega
  obtain ⟨z,m,d,e1,e2,e3⟩:=of_l0 hn (min (n * 400 / 146097 + 1) 9999 - 1).toNat (min (n * 400 / 146097 + 1) 9999) (by omega) (by omega)
  refine ⟨z,m,d,e1,e2,fun k hk=>?_⟩
  obtain ⟨k,rfl⟩ : ∃ q,k=q + 1:=⟨k - 1,by omega⟩
  unfold date_Of.f
  rw [if_neg (by omega),decide_eq_false (by omega)]
  simp only [date_Of.j0]
  rw [if_neg (by decide),wrap_id (x:=n * 400) (by omega),tdiv_pos_ _ (by omega),wrap_id (x:=n * 400 / 146097) (by omega),wrap_id (by omega),mn_eq]
  exact e3 0 k (by omega)
theorem of_none {n:Int} (hn:n < 1∨3652059 < n) (k:Nat) (hk:0 < k):date_Of.f k n=some (0,0,0,11):=by
  obtain ⟨k,rfl⟩ : ∃ q,k=q + 1:=⟨k - 1,by omega⟩
  unfold date_Of.f
  by_cases h:n < 1
  · rw [if_pos h]
    simp only [date_Of.j0,if_true]
  · rw [if_neg h,decide_eq_true (by omega)]
    simp only [date_Of.j0,if_true]
theorem further {y m d a:Int} (h:Right y m d) (ha:1≤num y m d + a∧num y m d + a≤3652059) :
    ∃ y2 m2 d2,Right y2 m2 d2∧num y2 m2 d2=num y m d + a∧∀ k,20200 < k→month_AddDays.f k y m d a=some (y2,m2,d2,0):=by
  obtain ⟨z,q,e,h1,h2,h3⟩:=of_eq ha
  refine ⟨z,q,e,h1,h2,fun k hk=>?_⟩
  have b:=num_top h
  unfold month_AddDays.f
  rw [number_eq y m d k (by omega),Option.bind_some,if_pos h,if_pos rfl,if_neg (by omega),if_neg (by omega),wrap_id (by omega),h3 k hk,Option.bind_some]
theorem further_none {y m d a:Int} (h:Right y m d) (ha:num y m d + a < 1∨3652059 < num y m d + a) (k:Nat) (hk:20200 < k) :
    month_AddDays.f k y m d a=some (0,0,0,11):=by
  have b:=num_top h
  unfold month_AddDays.f
  rw [number_eq y m d k (by omega),Option.bind_some,if_pos h,if_pos rfl]
  by_cases h1:a < -3719628
  · rw [if_pos h1]
  · rw [if_neg h1]
    by_cases h2:a > 3719628
    · rw [if_pos h2]
    · rw [if_neg h2,wrap_id (by omega),of_none ha k (by omega),Option.bind_some]
def sgI (a b:Int):Int:=if a < b then -1 else if a > b then 1 else 0
theorem cmpI_d (a b:Int):cmp_Compare_int.f a b=some (sgI a b):=by
  unfold cmp_Compare_int.f cmp_isNaN_int.f sgI
  simp only [bne_self_eq_false,Option.bind_some]
  rw [if_neg (by decide),if_neg (by decide)]
  by_cases h:a < b
  · rw [if_pos h,if_pos h]
  · rw [if_neg h,if_neg h]
    by_cases h2:a > b
    · rw [if_pos h2,if_pos h2]
    · rw [if_neg h2,if_neg h2]
def or3 (a b c:Int):Int:=if a=0 then (if b=0 then c else b) else a
theorem or3_eq (a b c:Int) (k:Nat) (hk:3 < k):cmp_Or_int.f k [a,b,c]=some (or3 a b c):=by
  obtain ⟨k,rfl⟩ : ∃ q,k=q + 4:=⟨k - 4,by omega⟩
  have r0:rd [a,b,c] 0=a:=rfl
  have r1:rd [a,b,c] 1=b:=rfl
  have r2:rd [a,b,c] 2=c:=rfl
  unfold cmp_Or_int.f or3
  simp only [cmp_Or_int.l0,List.length_cons,List.length_nil]
  have w1:wrap64 (0 + 1)=1:=wrap_id (by decide)
  have w2:wrap64 (1 + 1)=2:=wrap_id (by decide)
  have w3:wrap64 (2 + 1)=3:=wrap_id (by decide)
  rw [if_pos (by decide),if_pos (by decide),if_pos (by decide),r0]
  by_cases ha:a=0
  · rw [if_pos ha,if_pos ha,w1,if_pos (by decide),if_pos (by decide),if_pos (by decide),r1]
    by_cases hb:b=0
    · rw [if_pos hb,if_pos hb,w2,if_pos (by decide),if_pos (by decide),if_pos (by decide),r2]
      by_cases hc:c=0
      · rw [if_pos hc,w3,if_neg (by decide),hc]
      · rw [if_neg hc]
    · rw [if_neg hb,if_neg hb]
  · rw [if_neg ha,if_neg ha]
theorem cmp_eq (y m d y2 m2 d2:Int) (k:Nat) (hk:3 < k):date_Cmp.f k y m d y2 m2 d2=some (or3 (sgI y y2) (sgI m m2) (sgI d d2)):=by
  unfold date_Cmp.f
  simp only [cmpI_d,Option.bind_some,or3_eq _ _ _ k hk]
theorem refcmp_eq (a b c p q r:Int) (k:Nat) (hk:3 < k):chattelref09_Cmp.f k a b c p q r=some (or3 (sgI a p) (sgI b q) (sgI c r)):=by
  obtain ⟨k,rfl⟩ : ∃ q,k=q + 4:=⟨k - 4,by omega⟩
  have r0:rd [a,b,c] 0=a:=rfl
  have r1:rd [a,b,c] 1=b:=rfl
  have r2:rd [a,b,c] 2=c:=rfl
  have s0:rd [p,q,r] 0=p:=rfl
  have s1:rd [p,q,r] 1=q:=rfl
  have s2:rd [p,q,r] 2=r:=rfl
  have w1:wrap64 (0 + 1)=1:=wrap_id (by decide)
  have w2:wrap64 (1 + 1)=2:=wrap_id (by decide)
  have w3:wrap64 (2 + 1)=3:=wrap_id (by decide)
  unfold chattelref09_Cmp.f or3 sgI
  simp only [chattelref09_Cmp.l0,List.length_cons,List.length_nil]
  rw [if_pos (by decide),if_pos (by decide),if_pos (by decide),if_pos (by decide),r0,s0]
  by_cases h1:a < p
  · rw [if_pos h1,if_pos h1,if_neg (by decide)]
  · rw [if_neg h1,if_neg h1]
    by_cases h2:a > p
    · rw [if_pos h2,if_pos h2,if_neg (by decide)]
    · rw [if_neg h2,if_neg h2]
      simp only [if_true]
      rw [w1,if_pos (by decide),if_pos (by decide),if_pos (by decide),if_pos (by decide),r1,s1]
      by_cases h3:b < q
      · rw [if_pos h3,if_pos h3,if_neg (by decide)]
      · rw [if_neg h3,if_neg h3]
        by_cases h4:b > q
        · rw [if_pos h4,if_pos h4,if_neg (by decide)]
        · rw [if_neg h4,if_neg h4]
          simp only [if_true]
          rw [w2,if_pos (by decide),if_pos (by decide),if_pos (by decide),if_pos (by decide),r2,s2]
          by_cases h5:c < r
          · rw [if_pos h5,if_pos h5]
          · rw [if_neg h5,if_neg h5]
            by_cases h6:c > r
            · rw [if_pos h6,if_pos h6]
            · rw [if_neg h6,if_neg h6,w3,if_neg (by decide)]
theorem sg_lt_d {a b:Int} (h:a < b):sgI a b = -1:=if_pos h
theorem sg_gt_d {a b:Int} (h:b < a):sgI a b=1:=by unfold sgI;rw [if_neg (by omega),if_pos h]
theorem sg_eq_d (a:Int):sgI a a=0:=by unfold sgI;rw [if_neg (by omega),if_neg (by omega)]
theorem or3_num {y m d y2 m2 d2:Int} (h:Right y m d) (h2:Right y2 m2 d2):or3 (sgI y y2) (sgI m m2) (sgI d d2)=sgI (num y m d) (num y2 m2 d2):=by
  rcases Int.lt_trichotomy y y2 with a|a|a
  · rw [sg_lt_d a,sg_lt_d (num_year h h2 a)];rfl
  · subst a
    rw [sg_eq_d]
    rcases Int.lt_trichotomy m m2 with a|a|a
    · rw [sg_lt_d a,sg_lt_d (num_month h h2 a)];rfl
    · subst a
      rw [sg_eq_d]
      rcases Int.lt_trichotomy d d2 with a|a|a
      · rw [sg_lt_d a,sg_lt_d (num_day a)];rfl
      · subst a
        rw [sg_eq_d,sg_eq_d];rfl
      · rw [sg_gt_d a,sg_gt_d (num_day a)];rfl
    · rw [sg_gt_d a,sg_gt_d (num_month h2 h a)];rfl
  · rw [sg_gt_d a,sg_gt_d (num_year h2 h a)];rfl
def sg (a b:Nat):Int:=if a < b then -1 else if a=b then 0 else 1
theorem cmpI (a b:Int):cmp_Compare_int.f a b=some (if a < b then -1 else if a=b then 0 else 1):=by
  unfold cmp_Compare_int.f cmp_isNaN_int.f
  simp only [Option.bind_some,bne_self_eq_false,Bool.false_eq_true,if_false]
  by_cases h:a < b
  · simp [h]
  · by_cases h2:a > b
    · rw [if_neg h,if_pos h2,if_neg h,if_neg (by omega)]
    · rw [if_neg h,if_neg h2,if_neg h,if_pos (by omega)]
theorem cmpU (a b:Int):cmp_Compare_uint64.f a b=some (if a < b then -1 else if a=b then 0 else 1):=by
  unfold cmp_Compare_uint64.f cmp_isNaN_uint64.f
  simp only [Option.bind_some,bne_self_eq_false,Bool.false_eq_true,if_false]
  by_cases h:a < b
  · simp [h]
  · by_cases h2:a > b
    · rw [if_neg h,if_pos h2,if_neg h,if_neg (by omega)]
    · rw [if_neg h,if_neg h2,if_neg h,if_pos (by omega)]
theorem sg_step {B:Int} (hB:0 < B) {a b:List Int} (ha:wf B a) (hb:wf B b) (i:Nat) (heq:vl B (a.take (i + 1)) < vl B (b.take (i + 1)) ↔ vl B a < vl B b)
    (heq2:vl B (a.take (i + 1))=vl B (b.take (i + 1)) ↔ vl B a=vl B b) (hla:i < a.length) (hlb:i < b.length) :
    (a.getD i 0 < b.getD i 0→vl B a < vl B b)∧(b.getD i 0 < a.getD i 0→vl B b < vl B a) ∧
    (a.getD i 0=b.getD i 0→(vl B (a.take i) < vl B (b.take i) ↔ vl B a < vl B b)∧(vl B (a.take i)=vl B (b.take i) ↔ vl B a=vl B b)):=by
  have h1:=vl_lt hB (wf_take ha i)
  have h2:=vl_lt hB (wf_take hb i)
  have h3:=vl_nonneg hB (wf_take ha i)
  have h4:=vl_nonneg hB (wf_take hb i)
  rw [List.length_take,Nat.min_eq_left (Nat.le_of_lt hla)] at h1
  rw [List.length_take,Nat.min_eq_left (Nat.le_of_lt hlb)] at h2
  rw [vl_take_succ,vl_take_succ] at heq heq2
  generalize vl B (a.take i)=p at *
  generalize vl B (b.take i)=q at *
  generalize hx:a.getD i 0=x at *
  generalize hy:b.getD i 0=y at *
  generalize B ^ i=m at *
  have hm:0 < m:=by omega
  have key : ∀ s t:Int,s < t→m * s + m≤m * t:=fun s t hst=>by
    have:=Int.mul_le_mul_of_nonneg_left (show s + 1≤t by omega) (Int.le_of_lt hm)
    rwa [Int.mul_add,Int.mul_one] at this
  refine ⟨fun h=>?_,fun h=>?_,fun h=>?_⟩
  · have:=key x y h;exact heq.1 (by omega)
  · have:=key y x h
    have h5 : ¬ vl B a < vl B b:=fun h=>by have:=heq.2 h;omega
    have h6 : ¬ vl B a=vl B b:=fun h=>by have:=heq2.2 h;omega
    omega
  · subst h
    exact ⟨⟨fun h=>heq.1 (by omega),fun h=>by have:=heq.2 h;omega⟩,⟨fun h=>heq2.1 (by omega),fun h=>by have:=heq2.2 h;omega⟩⟩
theorem cmp_l0 (a b:List Int) (ha:wfW a) (hb:wfW b) (hl:a.length=b.length) (hm:a.length < 4611686018427387904) : ∀ n:Nat,n≤a.length →
    (vW (a.take n) < vW (b.take n) ↔ vW a < vW b)→(vW (a.take n)=vW (b.take n) ↔ vW a=vW b)→∀ k,n < k→nat_Nat_Cmp.l0 k ((n:Int) - 1) a b=some (if vW a < vW b then -1 else if vW a=vW b then 0 else 1):=by
  intro n
  induction n with
  | zero =>
    intro hn h1 h2 k hk
    obtain ⟨k,rfl⟩ : ∃ m,k=m + 1:=⟨k - 1,by omega⟩
    simp only [nat_Nat_Cmp.l0]
    rw [if_neg (by omega)]
    have h3:vW a=vW b:=h2.1 rfl
    rw [if_neg (by omega),if_pos h3]
  | succ n ih =>
    intro hn h1 h2 k hk
    obtain ⟨k,rfl⟩ : ∃ m,k=m + 1:=⟨k - 1,by omega⟩
    have e1:((n + 1:Nat):Int) - 1=(n:Int):=by omega
    have e2:wrap64 ((n:Int) - 1)=(n:Int) - 1:=wrap_id (by omega)
    simp only [nat_Nat_Cmp.l0,e1,e2,rd_nat,cmpU,Option.bind_some]
    rw [if_pos (by omega),if_pos (by omega),if_pos (by omega),if_pos (by omega)]
    obtain ⟨s1,s2,s3⟩:=sg_step W_pos ha hb n h1 h2 (by omega) (by omega)
    by_cases c1:a.getD n 0 < b.getD n 0
    · have:=s1 c1
      rw [if_pos c1,if_neg (by decide),if_pos this]
    · by_cases c2:a.getD n 0=b.getD n 0
      · rw [if_neg c1,if_pos c2,if_pos rfl]
        exact ih (by omega) (s3 c2).1 (s3 c2).2 k (by omega)
      · have:=s2 (by omega)
        simp only [vW]
        rw [if_neg c1,if_neg c2,if_neg (by decide),if_neg (by omega),if_neg (by omega)]
theorem lim_len_lt {a b:Nat} (h:(lim a).length < (lim b).length):a < b:=by
  have h1:=dg_lt W2 a
  have h2:b≠0:=fun h0=>by subst h0;unfold lim at h;rw [dg_zero] at h;simp at h
  have h3:=dg_le W2 h2
  have h4:W ^ (dg W a).length≤W ^ ((dg W b).length - 1):=Nat.pow_le_pow_right (by decide) (by unfold lim at h;omega)
  omega
theorem cmp_ev (a b:Nat) (ha:(lim a).length < 4611686018427387904) (hb:(lim b).length < 4611686018427387904):Ev (fun k=>nat_Nat_Cmp.f k (lim a) (lim b)) (sg a b):=by
  unfold nat_Nat_Cmp.f
  simp only [cmpI,Option.bind_some]
  rcases Nat.lt_trichotomy (lim a).length (lim b).length with h|h|h
  · have:=lim_len_lt h
    rw [if_pos (by omega)]
    refine Ev.neg (by decide) (Ev.const ?_)
    unfold sg;rw [if_pos this]
  · rw [if_neg (by omega),if_pos (by omega)]
    refine Ev.pos rfl (Ev.lt (lim a).length (fun k hk=>?_))
    rw [wrap_id (by omega)]
    rw [cmp_l0 (lim a) (lim b) (lim_wf a) (lim_wf b) h ha (lim a).length (Nat.le_refl _) (by rw [List.take_of_length_le (Nat.le_refl _),List.take_of_length_le (by omega)]) (by rw [List.take_of_length_le (Nat.le_refl _),List.take_of_length_le (by omega)]) k hk]
    rw [lim_v,lim_v]
    unfold sg
    congr 1
    by_cases h1:a < b
    · rw [if_pos h1,if_pos (by omega)]
    · rw [if_neg h1,if_neg (by omega)]
      by_cases h2:a=b
      · rw [if_pos h2,if_pos (by omega)]
      · rw [if_neg h2,if_neg (by omega)]
  · have:=lim_len_lt h
    rw [if_neg (by omega),if_neg (by omega)]
    refine Ev.neg (by decide) (Ev.const ?_)
    unfold sg;rw [if_neg (by omega),if_neg (by omega)]
structure SubInv (a b x:List Int) (c:Int) (n i:Nat):Prop where
  w:wfW x
  len:x.length=n
  c0:0≤c∧c≤1
  z : ∀ j,i≤j→x.getD j 0=0
  v:vW x - c * ((W:Nat):Int) ^ i=vW (a.take i) - vW (b.take i)
theorem sub_l0 (a b:List Int) (ha:wfW a) (hb:wfW b) (hn:a.length < 4611686018427387904) (hn2:b.length≤a.length) (hle:vW b≤vW a) :
    ∀ d i:Nat,i + d=a.length→∀ x c,SubInv a b x c a.length i→Ev (fun k=>nat_Nat_Sub.l0 k x c (a.length:Int) (i:Int) a b) (lim (vW a - vW b).toNat,true):=by
  intro d
  induction d with
  | zero =>
    intro i hi x c h
    have hi':i=a.length:=by omega
    subst hi'
    refine Ev.unroll ?_
    simp only [nat_Nat_Sub.l0]
    refine Ev.neg (by omega) ?_
    have hv:=h.v
    rw [show vW (a.take a.length)=vW a from vl_take_ge _ _ _ (by omega),show vW (b.take a.length)=vW b from vl_take_ge _ _ _ (by omega)] at hv
    have hc:c=0:=by
      have h1:=vl_lt W_pos h.w
      rw [h.len] at h1
      rcases Int.le_iff_lt_or_eq.1 h.c0.1 with h8|h8
      · have h9:c=1:=by have:=h.c0.2;omega
        rw [h9] at hv
        simp only [vW] at hv hle
        omega
      · exact h8.symm
    rw [hc,Int.zero_mul,Int.sub_zero] at hv
    rw [← hv]
    exact Ev.bind (f:=fun _ t=>some (t,true)) (trimmed_ev x h.w (by rw [h.len];exact hn)) (Ev.now _)
  | succ d ih =>
    intro i hi x c h
    refine Ev.unroll ?_
    simp only [nat_Nat_Sub.l0]
    refine Ev.pos (by omega) (Ev.pos (by omega) (Ev.pos (by omega) ?_))
    have e1:wrap64 ((i:Int) + 1)=((i + 1:Nat):Int):=by rw [wrap_id (by omega)];omega
    simp only [limb_eq,Option.bind_some,e1,Int.toNat_natCast,rd_nat]
    refine Ev.pos h.c0.2 (Ev.pos (by rw [h.len];omega) ?_)
    have wa:=wf_getD W_pos ha i
    have wb:=wf_getD W_pos hb i
    obtain ⟨s1,s2,s3⟩:=sub64_b wa wb h.c0
    refine ih (i + 1) (by omega) _ _ ⟨wf_set h.w i s1,by rw [List.length_set,h.len],s2,fun j hj=>by rw [getD_set_ne _ _ _ _ _ (by omega)];exact h.z j (by omega),?_⟩
    have hv:=h.v
    show vl _ _ - _=vl _ _ - vl _ _
    rw [vl_set _ _ _ _ (by rw [h.len];omega),h.z i (Nat.le_refl i),vl_take_succ,vl_take_succ,Int.pow_succ,Int.sub_zero]
    simp only [vW] at hv
    generalize ((W:Nat):Int) ^ i=p at *
    generalize sub64d (a.getD i 0) (b.getD i 0) c=s at *
    generalize sub64b (a.getD i 0) (b.getD i 0) c=q at *
    have e2:p * (s - 18446744073709551616 * q)=p * (a.getD i 0 - b.getD i 0 - c):=by rw [s3]
    simp only [W_int] at *
    grind
theorem sub_ev (a b:Nat) (la:(lim a).length≤1099511627776) (lb:(lim b).length≤1099511627776):Ev (fun k=>nat_Nat_Sub.f k (lim a) (lim b)) (if a < b then ([],false) else (lim (a - b),true)):=by
  unfold nat_Nat_Sub.f
  refine Ev.bind (f:=fun k t378=>if t378 < 0 then some (([]:List Int),false) else _) (cmp_ev a b (by omega) (by omega)) ?_
  unfold sg
  by_cases h:a < b
  · rw [if_pos h,if_pos h]
    exact Ev.pos (by decide) (Ev.now _)
  · rw [if_neg h,if_neg h]
    refine Ev.neg (by split <;> decide) (Ev.pos (by omega) (Ev.pos (by omega) ?_))
    simp only [Option.bind_some,List.length_replicate,Int.toNat_natCast]
    have hlen:(lim b).length≤(lim a).length:=by
      rcases Nat.lt_or_ge (lim a).length (lim b).length with h1|h1
      · exact absurd (lim_len_lt h1) h
      · exact h1
    have:=sub_l0 (lim a) (lim b) (lim_wf a) (lim_wf b) (by omega) hlen (by rw [lim_v,lim_v];omega) _ 0 (Nat.zero_add _) _ _ (⟨wf_replicate W_pos _,List.length_replicate,by omega,fun j _=>by rw [List.getD_eq_getElem?_getD,List.getElem?_replicate];split <;> rfl,by show vl _ _ - _=vl _ _ - vl _ _;rw [vl_replicate];rfl⟩:SubInv (lim a) (lim b) (List.replicate (lim a).length 0) 0 (lim a).length 0)
    rw [lim_v,lim_v,show ((a:Int) - (b:Int)).toNat=a - b by omega] at this
    exact this
theorem mask32 (a:Nat) (ha:a < 18446744073709551616):bits .and .u64 (a:Int) 4294967295=((a % 4294967296:Nat):Int):=by
  rw [show (4294967295:Int)=((4294967295:Nat):Int) from rfl,bits_and_u64_nat a 4294967295 ha (by decide)]
  congr 1
  exact Nat.and_two_pow_sub_one_eq_mod a 32
theorem wrapN (a:Nat) (ha:a < 18446744073709551616):IntKind.u64.wrap (a:Int)=(a:Int):=u64_id (by omega)
theorem mul64_eq (x y:Nat) (hx:x < 18446744073709551616) (hy:y < 18446744073709551616):bits_Mul64.f (x:Int) (y:Int)=some (((x * y / 18446744073709551616:Nat):Int),((x * y % 18446744073709551616:Nat):Int)):=by
  unfold bits_Mul64.f
  have d32 : ∀ a:Nat,(a:Int) / 4294967296=((a / 4294967296:Nat):Int):=fun a=>by omega
  generalize hx1:x / 4294967296=x1
  generalize hx0:x % 4294967296=x0
  generalize hy1:y / 4294967296=y1
  generalize hy0:y % 4294967296=y0
  have bx1:x1≤4294967295:=by omega
  have bx0:x0≤4294967295:=by omega
  have by1:y1≤4294967295:=by omega
  have by0:y0≤4294967295:=by omega
  have bd : ∀ {a b:Nat},a≤4294967295→b≤4294967295→a * b≤18446744065119617025:=fun ha hb=>Nat.mul_le_mul ha hb
  have p11:=bd bx1 by1
  have p10:=bd bx1 by0
  have p01:=bd bx0 by1
  have p00:=bd bx0 by0
  have ex:x=x1 * 4294967296 + x0:=by omega
  have ey:y=y1 * 4294967296 + y0:=by omega
  have emul:x * y=x1 * y1 * 18446744073709551616 + (x1 * y0 + x0 * y1) * 4294967296 + x0 * y0:=by
    rw [ex,ey];grind
  simp only [d32,mask32 x hx,mask32 y hy,hx1,hx0,hy1,hy0,← Int.natCast_mul]
  rw [wrapN (x1 * y1) (by omega),wrapN (x1 * y0) (by omega),wrapN (x0 * y0) (by omega),wrapN (x0 * y1) (by omega)]
  simp only [d32,← Int.natCast_add]
  rw [wrapN (x1 * y0 + x0 * y0 / 4294967296) (by omega),mask32 _ (by omega)]
  simp only [d32,← Int.natCast_add]
  rw [wrapN (x1 * y1 + (x1 * y0 + x0 * y0 / 4294967296) / 4294967296) (by omega),wrapN ((x1 * y0 + x0 * y0 / 4294967296) % 4294967296 + x0 * y1) (by omega)]
  simp only [d32,← Int.natCast_add]
  rw [wrapN _ (by omega),u64_wrap,emul]
  congr 2
  · congr 1
    generalize x1 * y1=a at *
    generalize x1 * y0=b at *
    generalize x0 * y1=c at *
    generalize x0 * y0=d at *
    omega
structure RowInv (y l x2:List Int) (x c:Int) (i:Nat):Prop where
  w:wfW x2
  len:x2.length=l.length
  c0:0≤c∧c < 18446744073709551616
  z : ∀ j,i≤j→x2.getD j 0=l.getD j 0
  v:vW x2 + c * ((W:Nat):Int) ^ i=vW l + x * vW (y.take i)
theorem row_step (x y c l:Nat) (hx:x < 18446744073709551616) (hy:y < 18446744073709551616) (hc:c < 18446744073709551616) (hl:l < 18446744073709551616) :
    x * y / 18446744073709551616 < 18446744073709551616∧x * y / 18446744073709551616 + (x * y % 18446744073709551616 + c) / 18446744073709551616 < 18446744073709551616∧x * y / 18446744073709551616 + (x * y % 18446744073709551616 + c) / 18446744073709551616 + (l + (x * y % 18446744073709551616 + c) % 18446744073709551616) / 18446744073709551616 < 18446744073709551616 ∧
    (l + (x * y % 18446744073709551616 + c) % 18446744073709551616) % 18446744073709551616 + (x * y / 18446744073709551616 + (x * y % 18446744073709551616 + c) / 18446744073709551616 + (l + (x * y % 18446744073709551616 + c) % 18446744073709551616) / 18446744073709551616) * 18446744073709551616=l + x * y + c:=by
  have h1:x * y≤18446744073709551615 * 18446744073709551615:=Nat.mul_le_mul (by omega) (by omega)
  generalize x * y=p at *
  omega
theorem row_l0 (y l:List Int) (x:Int) (hy:wfW y) (hl:wfW l) (hx:0≤x∧x < 18446744073709551616) (hlen:y.length < l.length) (hm:l.length < 4611686018427387904) (hz:l.getD y.length 0=0) :
    ∀ d i:Nat,i + d=y.length→∀ x2 c,RowInv y l x2 x c i→∀ k,d < k→∃ r,nat_Nat_row.l0 k x x2 c y (y.length:Int) (i:Int) y=some r∧wfW r∧r.length=l.length∧vW r=vW l + x * vW y∧∀ j,y.length < j→r.getD j 0=l.getD j 0:=by
  intro d
  induction d with
  | zero =>
    intro i hi x2 c h k hk
    obtain ⟨k,rfl⟩ : ∃ m,k=m + 1:=⟨k - 1,by omega⟩
    have hi':i=y.length:=by omega
    subst hi'
    simp only [nat_Nat_row.l0,Int.toNat_natCast,rd_nat]
    rw [if_neg (by omega),if_pos (by omega),if_pos (by rw [h.len];omega),h.z _ (Nat.le_refl _),hz,Int.zero_add,u64_id h.c0]
    have hv:=h.v
    rw [show vW (y.take y.length)=vW y from vl_take_ge _ _ _ (by omega)] at hv
    refine ⟨_,rfl,wf_set h.w _ h.c0,by rw [List.length_set,h.len],?_,fun j hj=>?_⟩
    · show vl _ _=_
      rw [vl_set _ _ _ _ (by rw [h.len];omega),h.z _ (Nat.le_refl _),hz,Int.sub_zero]
      simp only [vW] at hv ⊢
      rw [← hv,Int.mul_comm c]
    · rw [getD_set_ne _ _ _ _ _ (by omega)]
      exact h.z j (by omega)
  | succ d ih =>
    intro i hi x2 c h k hk
    obtain ⟨k,rfl⟩ : ∃ m,k=m + 1:=⟨k - 1,by omega⟩
    have wy:=wf_getD W_pos hy i
    have wl:=wf_getD W_pos hl i
    have e1:wrap64 ((i:Int) + 1)=((i + 1:Nat):Int):=by rw [wrap_id (by omega)];omega
    have hzi:=h.z i (Nat.le_refl i)
    have hv:=h.v
    have hc:=h.c0
    obtain ⟨X,rfl⟩:=Int.eq_ofNat_of_zero_le hx.1
    obtain ⟨Y,hY⟩:=Int.eq_ofNat_of_zero_le wy.1
    obtain ⟨L,hL⟩:=Int.eq_ofNat_of_zero_le wl.1
    obtain ⟨C,rfl⟩:=Int.eq_ofNat_of_zero_le hc.1
    rw [hY,W_int] at wy
    rw [hL,W_int] at wl
    simp only [nat_Nat_row.l0,Int.toNat_natCast,rd_nat,e1,hzi,hY,hL]
    rw [if_pos (by omega),if_pos (by omega),if_pos (by omega),mul64_eq X Y (by omega) (by omega)]
    simp only [Option.bind_some]
    rw [if_pos (by rw [h.len];omega)]
    obtain ⟨q0,q00,q1,q2⟩:=row_step X Y C L (by omega) (by omega) (by omega) (by omega)
    have p2:X * Y % 18446744073709551616 < 18446744073709551616:=Nat.mod_lt _ (by decide)
    have f1:add64s ((X * Y % 18446744073709551616:Nat):Int) (C:Int) 0=(((X * Y % 18446744073709551616 + C) % 18446744073709551616:Nat):Int):=by unfold add64s;omega
    have f2:add64c ((X * Y % 18446744073709551616:Nat):Int) (C:Int) 0=(((X * Y % 18446744073709551616 + C) / 18446744073709551616:Nat):Int):=by unfold add64c;omega
    have f3 : ∀ s:Nat,add64s (L:Int) (s:Int) 0=(((L + s) % 18446744073709551616:Nat):Int):=fun s=>by unfold add64s;omega
    have f4 : ∀ s:Nat,add64c (L:Int) (s:Int) 0=(((L + s) / 18446744073709551616:Nat):Int):=fun s=>by unfold add64c;omega
    rw [f1,f2,f3,f4]
    simp only [← Int.natCast_add]
    rw [wrapN _ q00,← Int.natCast_add,wrapN _ q1]
    refine ih (i + 1) (by omega) _ _ ⟨wf_set h.w i ?_,by rw [List.length_set,h.len],by omega,fun j hj=>by rw [getD_set_ne _ _ _ _ _ (by omega)];exact h.z j (by omega),?_⟩ k (by omega)
    · have:=Nat.mod_lt (L + (X * Y % 18446744073709551616 + C) % 18446744073709551616) (show 0 < 18446744073709551616 by decide)
      rw [W_int]
      omega
    · show vl _ _ + _=vl _ _ + _ * vl _ _
      rw [vl_set _ _ _ _ (by rw [h.len];omega),hzi,hL,vl_take_succ,hY,Int.pow_succ]
      simp only [vW] at hv
      generalize hp:((W:Nat):Int) ^ i=p at *
      have q3:(((L + (X * Y % 18446744073709551616 + C) % 18446744073709551616) % 18446744073709551616:Nat):Int) + ((X * Y / 18446744073709551616 + (X * Y % 18446744073709551616 + C) / 18446744073709551616 + (L + (X * Y % 18446744073709551616 + C) % 18446744073709551616) / 18446744073709551616:Nat):Int) * ((W:Nat):Int)=(L:Int) + (X:Int) * (Y:Int) + (C:Int):=by
        rw [← Int.natCast_mul,← Int.natCast_add]
        show ((_ + _ * 18446744073709551616:Nat):Int)=_
        rw [q2,Int.natCast_add,Int.natCast_add,Int.natCast_mul]
      generalize (((L + (X * Y % 18446744073709551616 + C) % 18446744073709551616) % 18446744073709551616:Nat):Int)=s at *
      generalize ((X * Y / 18446744073709551616 + (X * Y % 18446744073709551616 + C) / 18446744073709551616 + (L + (X * Y % 18446744073709551616 + C) % 18446744073709551616) / 18446744073709551616:Nat):Int)=t at *
      generalize ((W:Nat):Int)=w at *
      have e2:p * (s + t * w)=p * ((L:Int) + (X:Int) * (Y:Int) + (C:Int)):=by rw [q3]
      grind
theorem row_eq (y l:List Int) (x:Int) (hy:wfW y) (hl:wfW l) (hx:0≤x∧x < 18446744073709551616) (hlen:y.length < l.length) (hm:l.length < 4611686018427387904) (hz:l.getD y.length 0=0) (k:Nat) (hk:y.length < k) :
    ∃ r,nat_Nat_row.f k y x l=some r∧wfW r∧r.length=l.length∧vW r=vW l + x * vW y∧∀ j,y.length < j→r.getD j 0=l.getD j 0:=by
  unfold nat_Nat_row.f
  exact row_l0 y l x hy hl hx hlen hm hz y.length 0 (Nat.zero_add _) l 0 ⟨hl,rfl,by omega,fun _ _=>rfl,by show vl _ l + 0 * _=vl _ l + x * vl _ (y.take 0);rw [List.take_zero,show vl ((W:Nat):Int) ([]:List Int)=0 from rfl,Int.zero_mul,Int.mul_zero]⟩ k hk
structure MulInv (a b x:List Int) (i:Nat):Prop where
  w:wfW x
  len:x.length=a.length + b.length + 1
  z : ∀ j,i + a.length≤j→x.getD j 0=0
  v:vW x=vW a * vW (b.take i)
theorem mul_l0 (a b:List Int) (ha:wfW a) (hb:wfW b) (hm:a.length + b.length < 2199023255552) :
    ∀ d i:Nat,i + d=b.length→∀ x,MulInv a b x i→Ev (fun k=>nat_Nat_Mul.l0 k x b (b.length:Int) (i:Int) a) (lim (vW a * vW b).toNat):=by
  intro d
  induction d with
  | zero =>
    intro i hi x h
    have hi':i=b.length:=by omega
    subst hi'
    refine Ev.unroll ?_
    simp only [nat_Nat_Mul.l0]
    refine Ev.neg (by omega) ?_
    have hv:=h.v
    rw [show vW (b.take b.length)=vW b from vl_take_ge _ _ _ (by omega)] at hv
    rw [← hv]
    exact Ev.bind (f:=fun _ t=>some t) (trimmed_ev x h.w (by rw [h.len];omega)) (Ev.now _)
  | succ d ih =>
    intro i hi x h
    refine Ev.unroll ?_
    have e1:wrap64 ((i:Int) + 1)=((i + 1:Nat):Int):=by rw [wrap_id (by omega)];omega
    simp only [nat_Nat_Mul.l0,e1,rd_nat]
    refine Ev.pos (by omega) (Ev.pos (by omega) (Ev.pos (by omega) (Ev.pos (by rw [h.len];omega) ?_)))
    have wb:=wf_getD W_pos hb i
    have hd:((x.take ((x.length:Int)).toNat).drop ((i:Int)).toNat)=x.drop i:=by rw [Int.toNat_natCast,Int.toNat_natCast,List.take_of_length_le (Nat.le_refl _)]
    have hdl:(x.drop i).length=a.length + b.length + 1 - i:=by rw [List.length_drop,h.len]
    have hget : ∀ j,(x.drop i).getD j 0=x.getD (i + j) 0:=fun j=>by rw [List.getD_eq_getElem?_getD,List.getElem?_drop,List.getD_eq_getElem?_getD]
    have hr : ∃ r,(∀ k,a.length < k→nat_Nat_row.f k a (b.getD i 0) (x.drop i)=some r)∧wfW r∧r.length=(x.drop i).length∧vW r=vW (x.drop i) + b.getD i 0 * vW a∧∀ j,a.length < j→r.getD j 0=(x.drop i).getD j 0:=by
      have key:=fun k hk=>row_eq a (x.drop i) (b.getD i 0) ha (wf_drop h.w i) (by rw [W_int] at wb;exact wb) (by omega) (by omega) (by rw [hget];exact h.z _ (Nat.le_refl _)) k hk
      obtain ⟨r,h1,h2⟩:=key (a.length + 1) (by omega)
      refine ⟨r,fun k hk=>?_,h2⟩
      exact at_rounds (nat_Nat_row.mono a (b.getD i 0) (x.drop i)) hk h1
    obtain ⟨r,r1,r2,r3,r4,r5⟩:=hr
    have hrow:Ev (fun k=>nat_Nat_rowW.f k a (b.getD i 0) x (i:Int) (x.length:Int)) (x.take i ++ r):=by
      refine Ev.lt a.length (fun k hk=>?_)
      unfold nat_Nat_rowW.f
      rw [if_pos ⟨by omega,by rw [h.len];omega,Int.le_refl _⟩,hd,r1 k hk]
      simp
    refine Ev.bind (f:=fun k t=>nat_Nat_Mul.l0 k t b (b.length:Int) ((i + 1:Nat):Int) a) hrow (ih (i + 1) (by omega) _ ?_)
    have htl:(x.take i).length=i:=by rw [List.length_take,h.len];omega
    refine ⟨wf_append (wf_take h.w i) r2,by rw [List.length_append,htl,r3,hdl];omega,fun j hj=>?_,?_⟩
    · rw [List.getD_eq_getElem?_getD,List.getElem?_append_right (by omega),← List.getD_eq_getElem?_getD,htl,r5 _ (by omega),hget]
      exact h.z _ (by omega)
    · have hv:=h.v
      have hsplit:vW x=vW (x.take i) + ((W:Nat):Int) ^ i * vW (x.drop i):=by
        have:=vl_append ((W:Nat):Int) (x.take i) (x.drop i)
        rw [List.take_append_drop,htl] at this
        exact this
      show vl _ _=_ * vl _ _
      rw [vl_append,htl,vl_take_succ]
      simp only [vW] at hv hsplit r4 ⊢
      rw [r4]
      rw [hsplit] at hv
      generalize ((W:Nat):Int) ^ i=p at *
      generalize vl ((W:Nat):Int) (x.take i)=s at *
      generalize vl ((W:Nat):Int) (x.drop i)=t at *
      generalize vl ((W:Nat):Int) a=u at *
      generalize vl ((W:Nat):Int) (b.take i)=q at *
      grind
theorem mul_ev (a b:List Int) (ha:wfW a) (hb:wfW b) (la:a.length≤1099511627775) (lb:b.length≤1099511627775):Ev (fun k=>nat_Nat_Mul.f k a b) (lim (vW a * vW b).toNat):=by
  unfold nat_Nat_Mul.f
  have e1:wrap64 (wrap64 ((a.length:Int) + (b.length:Int)) + 1)=((a.length + b.length + 1:Nat):Int):=by
    rw [wrap_id (x:=(a.length:Int) + (b.length:Int)) (by omega),wrap_id (by omega)];omega
  simp only [e1,Int.toNat_natCast]
  refine Ev.pos (by omega) (Ev.pos (by omega) ?_)
  refine mul_l0 a b ha hb (by omega) _ 0 (Nat.zero_add _) _ ⟨wf_replicate W_pos _,List.length_replicate,fun j _=>?_,?_⟩
  · rw [List.getD_eq_getElem?_getD,List.getElem?_replicate];split <;> rfl
  · show vl _ _=_ * vl _ _
    rw [vl_replicate]
    simp [vl]
def sz (n:Nat):Nat:=if n=0 then 0 else n.log2 + 1
theorem sz_lt (n:Nat):n < 2 ^ sz n:=by
  unfold sz
  split
  · next h=>subst h;decide
  · exact Nat.lt_log2_self
theorem sz_le {n:Nat} (h:n≠0):2 ^ (sz n - 1)≤n:=by
  unfold sz
  rw [if_neg h,Nat.add_sub_cancel]
  exact Nat.log2_self_le h
theorem sz_unique {n m:Nat} (hm:0 < m) (h1:2 ^ (m - 1)≤n) (h2:n < 2 ^ m):sz n=m:=by
  have hn:n≠0:=by have:0 < 2 ^ (m - 1):=Nat.pow_pos (by decide);omega
  have h3:=sz_le hn
  have h4:=sz_lt n
  have h5:0 < sz n:=by unfold sz;rw [if_neg hn];omega
  have h6:sz n - 1 < m:=by
    rcases Nat.lt_or_ge (sz n - 1) m with h|h
    · exact h
    · have:=Nat.pow_le_pow_right (n:=2) (by decide) h;omega
  have h7:m - 1 < sz n:=by
    rcases Nat.lt_or_ge (m - 1) (sz n) with h|h
    · exact h
    · have:=Nat.pow_le_pow_right (n:=2) (by decide) h;omega
  omega
theorem sz_div (n m:Nat) (h:2 ^ m≤n):sz n=sz (n / 2 ^ m) + m:=by
  have h0:0 < 2 ^ m:=Nat.pow_pos (by decide)
  have hd:n / 2 ^ m≠0:=by have:=Nat.div_pos h h0;omega
  have h5:0 < sz (n / 2 ^ m):=by unfold sz;rw [if_neg hd];omega
  refine sz_unique (by omega) ?_ ?_
  · rw [show sz (n / 2 ^ m) + m - 1=(sz (n / 2 ^ m) - 1) + m by omega,Nat.pow_add]
    have:=sz_le hd
    calc 2 ^ (sz (n / 2 ^ m) - 1) * 2 ^ m≤n / 2 ^ m * 2 ^ m:=Nat.mul_le_mul_right _ this
      _≤n:=Nat.div_mul_le_self _ _
  · have h1:=sz_lt (n / 2 ^ m)
    rw [Nat.pow_add]
    exact (Nat.div_lt_iff_lt_mul h0).1 h1
theorem sz_mono {a b:Nat} (h:a≤b):sz a≤sz b:=by
  by_cases ha:a=0
  · subst ha;exact Nat.zero_le _
  · have h1:=sz_le ha
    have h2:=sz_lt b
    rcases Nat.lt_or_ge (sz a - 1) (sz b) with h3|h3
    · omega
    · have:=Nat.pow_le_pow_right (n:=2) (by decide) h3;omega
def len8tab:ByteArray:=⟨#[0,1,2,2,3,3,3,3,4,4,4,4,4,4,4,4,5,5,5,5,5,5,5,5,5,5,5,5,5,5,5,5,6,6,6,6,6,6,6,6,6,6,6,6,6,6,6,6,6,6,6,6,6,6,6,6,6,6,6,6,6,6,6,6,7,7,7,7,7,7,7,7,7,7,7,7,7,7,7,7,7,7,7,7,7,7,7,7,7,7,7,7,7,7,7,7,7,7,7,7,7,7,7,7,7,7,7,7,7,7,7,7,7,7,7,7,7,7,7,7,7,7,7,7,7,7,7,7,8,8,8,8,8,8,8,8,8,8,8,8,8,8,8,8,8,8,8,8,8,8,8,8,8,8,8,8,8,8,8,8,8,8,8,8,8,8,8,8,8,8,8,8,8,8,8,8,8,8,8,8,8,8,8,8,8,8,8,8,8,8,8,8,8,8,8,8,8,8,8,8,8,8,8,8,8,8,8,8,8,8,8,8,8,8,8,8,8,8,8,8,8,8,8,8,8,8,8,8,8,8,8,8,8,8,8,8,8,8,8,8,8,8,8,8,8,8,8,8,8,8,8,8,8,8,8,8]⟩
theorem len8 : ∀ n:Fin 256,bt len8tab ((n.val:Nat):Int)=((sz n.val:Nat):Int):=by decide +kernel
theorem len8n (n:Nat) (h:n < 256):bt len8tab (n:Int)=((sz n:Nat):Int):=len8 ⟨n,h⟩
theorem sz_256 (n:Nat) (h:n < 256):sz n≤8:=by
  have:=sz_mono (show n≤255 by omega)
  have h2:sz 255=8:=by decide
  omega
set_option maxRecDepth 100000 in
theorem len64_eq (n:Nat) (hn:n < 18446744073709551616) (k:Nat) (hk:0 < k):bits_Len64.f k (n:Int)=some ((sz n:Nat):Int):=by
  obtain ⟨k,rfl⟩ : ∃ m,k=m + 1:=⟨k - 1,by omega⟩
  have d1 : ∀ a:Nat,(a:Int) / 4294967296=((a / 4294967296:Nat):Int):=fun a=>by omega
  have d2 : ∀ a:Nat,(a:Int) / 65536=((a / 65536:Nat):Int):=fun a=>by omega
  have d3 : ∀ a:Nat,(a:Int) / 256=((a / 256:Nat):Int):=fun a=>by omega
  have d4 : ∀ a:Nat,a < 256→(a:Int) % 256=(a:Int):=fun a h=>by omega
  have leaf : ∀ (a m s:Nat),a < 256→n=m→s≤56→sz n=sz a + s→wrap64 ((s:Int) + wrap64 ((sz a:Nat):Int))=((sz n:Nat):Int):=fun a m s ha _ hs he=>by
    have:=sz_256 a ha
    rw [wrap_id (x:=((sz a:Nat):Int)) (by omega),wrap_id (by omega),he];omega
  have key : ∀ (m s:Nat),m < 4294967296→s≤32→sz n=sz m + s→bits_Len64.j0 (k + 1) (m:Int) (s:Int)=some ((sz n:Nat):Int):=by
    intro m s hm hs he
    have w1:wrap64 ((s:Int) + 16)=((s + 16:Nat):Int):=by rw [wrap_id (by omega)];omega
    have w2:wrap64 (((s + 16:Nat):Int) + 8)=((s + 24:Nat):Int):=by rw [wrap_id (by omega)];omega
    have w3:wrap64 ((s:Int) + 8)=((s + 8:Nat):Int):=by rw [wrap_id (by omega)];omega
    rw [bits_Len64.j0]
    simp only [d2,d3,w1,w2,w3]
    by_cases h1:m < 65536
    · rw [if_neg (by omega)]
      by_cases h2:m < 256
      · rw [if_neg (by omega),d4 m h2,if_pos (by omega),if_pos (by omega)]
        have:=leaf m n s h2 rfl (by omega) he
        rw [← len8n m h2] at this
        exact congrArg some this
      · have hd:m / 256 < 256:=by omega
        rw [if_pos (by omega),d4 _ hd,if_pos (by omega),if_pos (by omega)]
        have:=leaf (m / 256) n (s + 8) hd rfl (by omega) (by rw [he,sz_div m 8 (by omega),show (2:Nat) ^ 8=256 from rfl];omega)
        rw [← len8n _ hd] at this
        exact congrArg some this
    · rw [if_pos (by omega)]
      by_cases h2:m / 65536 < 256
      · rw [if_neg (by omega),d4 _ h2,if_pos (by omega),if_pos (by omega)]
        have:=leaf (m / 65536) n (s + 16) h2 rfl (by omega) (by rw [he,sz_div m 16 (by omega),show (2:Nat) ^ 16=65536 from rfl];omega)
        rw [← len8n _ h2] at this
        exact congrArg some this
      · have hd:m / 65536 / 256 < 256:=by omega
        rw [if_pos (by omega),d4 _ hd,if_pos (by omega),if_pos (by omega)]
        have:=leaf (m / 65536 / 256) n (s + 24) hd rfl (by omega) (by rw [he,sz_div m 24 (by omega),show (2:Nat) ^ 24=65536 * 256 from rfl,Nat.div_div_eq_div_mul];omega)
        rw [← len8n _ hd] at this
        exact congrArg some this
  unfold bits_Len64.f
  by_cases h:n < 4294967296
  · rw [if_neg (by omega)]
    exact key n 0 h (by omega) rfl
  · rw [if_pos (by omega),d1]
    exact key (n / 4294967296) 32 (by omega) (by omega) (sz_div n 32 (by omega))
theorem lim_zero:lim 0 = []:=dg_zero W
theorem lim_pos {n:Nat} (h:n≠0):0 < (lim n).length:=by unfold lim;rw [dg_pos W2 h];simp
theorem lim_len_le {n m:Nat} (h:n < W ^ m):(lim n).length≤m:=dg_len_le W2 h
theorem lim_lt (n:Nat):n < W ^ (lim n).length:=dg_lt W2 n
theorem lim_le {n:Nat} (h:n≠0):W ^ ((lim n).length - 1)≤n:=dg_le W2 h
theorem top_lt {n:Nat} (h:n≠0):n / W ^ ((lim n).length - 1) < 18446744073709551616:=by
  rw [Nat.div_lt_iff_lt_mul (Nat.pow_pos (by decide))]
  have h1:=lim_lt n
  have h2:=lim_pos h
  rw [show (lim n).length=((lim n).length - 1) + 1 by omega,Nat.pow_succ,Nat.mul_comm] at h1
  exact h1
theorem top_pos {n:Nat} (h:n≠0):n / W ^ ((lim n).length - 1)≠0:=by
  have:=Nat.div_pos (lim_le h) (Nat.pow_pos (n:=(lim n).length - 1) (show 0 < W by decide))
  omega
theorem lim_top {n:Nat} (h:n≠0):(lim n).getD ((lim n).length - 1) 0=((n / W ^ ((lim n).length - 1):Nat):Int):=by
  unfold lim
  rw [dg_getD W2,Nat.mod_eq_of_lt]
  exact top_lt h
theorem sz_64 (n:Nat) (h:n < 18446744073709551616):sz n≤64:=by
  have:=sz_mono (show n≤18446744073709551615 by omega)
  have h2:sz 18446744073709551615=64:=by decide +kernel
  omega
theorem len_add (a b:Nat):(lim (a + b)).length≤max (lim a).length (lim b).length + 1:=by
  refine lim_len_le ?_
  have h1:=lim_lt a
  have h2:=lim_lt b
  have h3:W ^ (lim a).length≤W ^ (max (lim a).length (lim b).length):=Nat.pow_le_pow_right (by decide) (by omega)
  have h4:W ^ (lim b).length≤W ^ (max (lim a).length (lim b).length):=Nat.pow_le_pow_right (by decide) (by omega)
  rw [Nat.pow_succ]
  generalize W ^ (max (lim a).length (lim b).length)=p at *
  show a + b < p * 18446744073709551616
  omega
theorem len_mul (a b:Nat):(lim (a * b)).length≤(lim a).length + (lim b).length:=by
  refine lim_len_le ?_
  rw [Nat.pow_add]
  exact Nat.mul_lt_mul_of_lt_of_lt (lim_lt a) (lim_lt b)
theorem len_mono {a b:Nat} (h:a≤b):(lim a).length≤(lim b).length:=by
  rcases Nat.lt_or_ge (lim b).length (lim a).length with h1|h1
  · have:=lim_len_lt h1;omega
  · exact h1
theorem add_lim (a b:Nat) (la:(lim a).length≤1099511627776) (lb:(lim b).length≤1099511627776):Ev (fun k=>nat_Nat_Add.f k (lim a) (lim b)) (lim (a + b)):=by
  have:=add_ev (lim a) (lim b) (lim_wf a) (lim_wf b) la lb
  rw [lim_v,lim_v,show ((a:Int) + (b:Int)).toNat=a + b by omega] at this
  exact this
theorem mul_lim (a b:Nat) (la:(lim a).length≤1099511627775) (lb:(lim b).length≤1099511627775):Ev (fun k=>nat_Nat_Mul.f k (lim a) (lim b)) (lim (a * b)):=by
  have:=mul_ev (lim a) (lim b) (lim_wf a) (lim_wf b) la lb
  rw [lim_v,lim_v,show ((a:Int) * (b:Int)).toNat=a * b by rw [← Int.natCast_mul,Int.toNat_natCast]] at this
  exact this
theorem of_lim {l:List Int} {a n:Nat} (h1:vW l=a) (h2:wfW l) (h3:l.length≤n) (hn:n < 17592186044416):Ev (fun k=>nat_Of.f k l) (lim a):=by
  have:=of_ev l h2 (by omega)
  rw [h1,Int.toNat_natCast] at this
  exact this
end Go.Proofs.YtakidmbnkkhojaaGreatM
end

section
namespace Go.Proofs.YtakidmbnkkhojaaGreatM
open Go.RowKit Go.Proofs.YtakidmbnkkhojaaGreatW.PrintWords Go.Proofs.YtakidmbnkkhojaaGreatW.PrintLast Go.Proofs.YtakidmbnkkhojaaGreatW.PrintMore Go.Proofs.YtakidmbnkkhojaaGreatX Go.Proofs.YtakidmbnkkhojaaGreat.F
set_option linter.unusedVariables false
set_option linter.unusedSimpArgs false
theorem half_id (d1 d0 u c q r:Nat) (h:q * d1 + r=u):q * (d1 * 4294967296 + d0) + r * 4294967296=u * 4294967296 + q * d0:=by
  subst h
  grind
theorem half_test (d1 d0 u c q r:Nat) (h:q * d1 + r=u):q * (d1 * 4294967296 + d0)≤u * 4294967296 + c ↔ q * d0≤r * 4294967296 + c:=by
  have:=half_id d1 d0 u c q r h
  omega
theorem half_right {d N q:Nat} (hd:0 < d) (h1:N / d≤q) (h2:q * d≤N):q=N / d:=Nat.le_antisymm ((Nat.le_div_iff_mul_le hd).2 h2) h1
theorem half_out (d1 d0 u c q r:Nat) (h:q * d1 + r=u) (hu:u < d1 * 4294967296 + d0) (hd0:d0 < 4294967296) (hr:4294967296≤r):q * (d1 * 4294967296 + d0)≤u * 4294967296 + c:=by
  rw [half_test d1 d0 u c q r h]
  by_cases hq:q≤4294967296
  · have h1:q * d0≤4294967296 * d0:=Nat.mul_le_mul_right _ hq
    omega
  · have h1:4294967297 * d1≤q * d1:=Nat.mul_le_mul_right _ (by omega)
    omega
theorem half_lt (d u c:Nat) (hu:u < d) (hc:c < 4294967296):(u * 4294967296 + c) / d < 4294967296:=by
  refine (Nat.div_lt_iff_lt_mul (by omega)).2 ?_
  have:(u + 1) * 4294967296≤d * 4294967296:=Nat.mul_le_mul_right _ hu
  omega
theorem half_first (d1 d0 u c:Nat) (hd1:0 < d1) (hc:c < 4294967296):(u * 4294967296 + c) / (d1 * 4294967296 + d0)≤u / d1:=by
  have hd:0 < d1 * 4294967296 + d0:=by omega
  refine (Nat.le_div_iff_mul_le hd1).2 ?_
  have h1:=Nat.div_mul_le_self (u * 4294967296 + c) (d1 * 4294967296 + d0)
  generalize (u * 4294967296 + c) / (d1 * 4294967296 + d0)=q at *
  have h2:q * (d1 * 4294967296 + d0)=q * d1 * 4294967296 + q * d0:=by grind
  omega
theorem wrap_dec {q:Nat} (h:0 < q) (hq:q < 18446744073709551616):IntKind.u64.wrap ((q:Int) - 1)=((q - 1:Nat):Int):=by
  rw [u64_id (by omega)]
  omega
theorem wrap_nat {q:Nat} (hq:q < 18446744073709551616):IntKind.u64.wrap ((q:Nat):Int)=(q:Int):=u64_id (by omega)
theorem test_eq {q d0 r c:Nat} (hq:q < 4294967296) (hd0:d0 < 4294967296) (hr:r < 4294967296) (hc:c < 4294967296) :
    decide (IntKind.u64.wrap ((q:Int) * (d0:Int)) > IntKind.u64.wrap (IntKind.u64.wrap (4294967296 * (r:Int)) + (c:Int)))=decide (¬ q * d0≤r * 4294967296 + c):=by
  have h1:q * d0≤4294967295 * 4294967295:=Nat.mul_le_mul (by omega) (by omega)
  rw [← Int.natCast_mul]
  generalize q * d0=p at *
  rw [u64_id (x:=((p:Nat):Int)) (by omega),u64_id (x:=4294967296 * (r:Int)) (by omega),u64_id (by omega)]
  rw [decide_eq_decide]
  omega
section
variable {R : Int × Int}
theorem d64_l0 (s d1 d0 u c z:Nat) (hu:u < d1 * 4294967296 + d0) (hd1:0 < d1) (hd1b:d1 < 4294967296) (hd0:d0 < 4294967296) (hc:c < 4294967296)
    (e:Ev (fun k=>bits_Div64.j2 k ((d1 * 4294967296 + d0:Nat):Int) (s:Int) (d1:Int) (d0:Int) (u:Int) (c:Int) (z:Int) (((u * 4294967296 + c) / (d1 * 4294967296 + d0):Nat):Int)) R) (n:Nat) :
    ∀ q r:Nat,q * d1 + r=u→(u * 4294967296 + c) / (d1 * 4294967296 + d0) + n=q→q < 18446744073709551616→r < 4294967296 →
      Ev (fun k=>bits_Div64.l0 k ((d1 * 4294967296 + d0:Nat):Int) (s:Int) (d1:Int) (d0:Int) (u:Int) (c:Int) (z:Int) (q:Int) (r:Int)) R:=by
  have hd:0 < d1 * 4294967296 + d0:=by omega
  have hlt:=half_lt (d1 * 4294967296 + d0) u c hu hc
  induction n with
  | zero =>
    intro q r h hq hqb hr
    have hq':q=(u * 4294967296 + c) / (d1 * 4294967296 + d0):=by omega
    refine Ev.unroll ?_
    simp only [bits_Div64.l0]
    refine Ev.neg (by omega) ?_
    rw [test_eq (by omega) hd0 hr hc]
    have ht:q * d0≤r * 4294967296 + c:=(half_test d1 d0 u c q r h).1 (by rw [hq'];exact Nat.div_mul_le_self _ _)
    rw [decide_eq_false (by omega)]
    refine Ev.unroll ?_
    simp only [bits_Div64.j1]
    refine Ev.neg (by decide) ?_
    rw [hq']
    exact e
  | succ n ih =>
    intro q r h hq hqb hr
    have hmore : ¬ q * (d1 * 4294967296 + d0)≤u * 4294967296 + c:=fun h2=>by have:=half_right hd (by omega) h2;omega
    have ht : ¬ q * d0≤r * 4294967296 + c:=fun h2=>hmore ((half_test d1 d0 u c q r h).2 h2)
    have hpos:0 < q:=by rw [← hq];exact Nat.succ_pos _
    obtain ⟨q,rfl⟩ : ∃ p,q=p + 1:=⟨q - 1,by clear hmore ht h hq;omega⟩
    have hs:q * d1 + (r + d1)=u:=by rw [← h,Nat.add_mul];omega
    have hrb:r + d1 < 18446744073709551616:=by omega
    have go:Ev (fun k=>bits_Div64.j1 k ((d1 * 4294967296 + d0:Nat):Int) (s:Int) (d1:Int) (d0:Int) (u:Int) (c:Int) (z:Int) ((q + 1:Nat):Int) (r:Int) true) R:=by
      refine Ev.unroll ?_
      simp only [bits_Div64.j1]
      refine Ev.pos (by trivial) ?_
      rw [wrap_dec (by omega) hqb,Nat.add_sub_cancel,← Int.natCast_add,wrap_nat hrb]
      by_cases hr2:r + d1 < 4294967296
      · refine Ev.neg (by omega) ?_
        exact ih q (r + d1) hs (by omega) (by omega) hr2
      · refine Ev.pos (by omega) ?_
        have:=half_right hd (by omega) (half_out d1 d0 u c q (r + d1) hs hu hd0 (by omega))
        rw [this]
        exact e
    refine Ev.unroll ?_
    simp only [bits_Div64.l0]
    by_cases hb:q + 1 < 4294967296
    · refine Ev.neg (by omega) ?_
      rw [test_eq hb hd0 hr hc,decide_eq_true ht]
      exact go
    · exact Ev.pos (by omega) go
theorem d64_l1 (s d1 d0 u c q1:Nat) (hu:u < d1 * 4294967296 + d0) (hd1:0 < d1) (hd1b:d1 < 4294967296) (hd0:d0 < 4294967296) (hc:c < 4294967296) (hq1:q1 < 4294967296) (n:Nat) :
    ∀ q r:Nat,q * d1 + r=u→(u * 4294967296 + c) / (d1 * 4294967296 + d0) + n=q→q < 18446744073709551616→r < 4294967296 →
      Ev (fun k=>bits_Div64.l1 k ((d1 * 4294967296 + d0:Nat):Int) (s:Int) (d1:Int) (d0:Int) (c:Int) (q1:Int) (r:Int) (u:Int) (q:Int))
        (((q1 * 4294967296 + (u * 4294967296 + c) / (d1 * 4294967296 + d0):Nat):Int),shr .u64 (((u * 4294967296 + c) % (d1 * 4294967296 + d0):Nat):Int) (s:Int)):=by
  have hd:0 < d1 * 4294967296 + d0:=by omega
  have hlt:=half_lt (d1 * 4294967296 + d0) u c hu hc
  have fin : ∀ q:Nat,q=(u * 4294967296 + c) / (d1 * 4294967296 + d0) →
      (IntKind.u64.wrap (IntKind.u64.wrap ((q1:Int) * 4294967296) + (q:Int)),shr .u64 (IntKind.u64.wrap (IntKind.u64.wrap (IntKind.u64.wrap ((u:Int) * 4294967296) + (c:Int)) - IntKind.u64.wrap ((q:Int) * ((d1 * 4294967296 + d0:Nat):Int)))) (s:Int)) =
      (((q1 * 4294967296 + (u * 4294967296 + c) / (d1 * 4294967296 + d0):Nat):Int),shr .u64 (((u * 4294967296 + c) % (d1 * 4294967296 + d0):Nat):Int) (s:Int)):=by
    intro q hq
    have e1:IntKind.u64.wrap (IntKind.u64.wrap ((q1:Int) * 4294967296) + (q:Int))=((q1 * 4294967296 + (u * 4294967296 + c) / (d1 * 4294967296 + d0):Nat):Int):=by
      rw [← hq,u64_id (x:=(q1:Int) * 4294967296) (by omega),u64_id (by omega)]
      omega
    have e2:IntKind.u64.wrap (IntKind.u64.wrap (IntKind.u64.wrap ((u:Int) * 4294967296) + (c:Int)) - IntKind.u64.wrap ((q:Int) * ((d1 * 4294967296 + d0:Nat):Int)))=(((u * 4294967296 + c) % (d1 * 4294967296 + d0):Nat):Int):=by
      have h1:=Nat.div_add_mod (u * 4294967296 + c) (d1 * 4294967296 + d0)
      have h2:=Nat.mod_lt (u * 4294967296 + c) hd
      rw [← hq,Nat.mul_comm] at h1
      rw [← Int.natCast_mul]
      simp only [u64_wrap]
      generalize q * (d1 * 4294967296 + d0)=p at *
      omega
    rw [e1,e2]
  induction n with
  | zero =>
    intro q r h hq hqb hr
    have hq':q=(u * 4294967296 + c) / (d1 * 4294967296 + d0):=by omega
    refine Ev.unroll ?_
    simp only [bits_Div64.l1]
    refine Ev.neg (by omega) ?_
    rw [test_eq (by omega) hd0 hr hc]
    have ht:q * d0≤r * 4294967296 + c:=(half_test d1 d0 u c q r h).1 (by rw [hq'];exact Nat.div_mul_le_self _ _)
    rw [decide_eq_false (by omega)]
    refine Ev.unroll ?_
    simp only [bits_Div64.j4]
    refine Ev.neg (by decide) (Ev.pos (by omega) (Ev.const ?_))
    rw [fin q hq']
  | succ n ih =>
    intro q r h hq hqb hr
    have hmore : ¬ q * (d1 * 4294967296 + d0)≤u * 4294967296 + c:=fun h2=>by have:=half_right hd (by omega) h2;omega
    have ht : ¬ q * d0≤r * 4294967296 + c:=fun h2=>hmore ((half_test d1 d0 u c q r h).2 h2)
    have hpos:0 < q:=by rw [← hq];exact Nat.succ_pos _
    obtain ⟨q,rfl⟩ : ∃ p,q=p + 1:=⟨q - 1,by clear hmore ht h hq;omega⟩
    have hs:q * d1 + (r + d1)=u:=by rw [← h,Nat.add_mul];omega
    have hrb:r + d1 < 18446744073709551616:=by omega
    have go:Ev (fun k=>bits_Div64.j4 k ((d1 * 4294967296 + d0:Nat):Int) (s:Int) (d1:Int) (d0:Int) (c:Int) (q1:Int) (r:Int) (u:Int) ((q + 1:Nat):Int) true)
        (((q1 * 4294967296 + (u * 4294967296 + c) / (d1 * 4294967296 + d0):Nat):Int),shr .u64 (((u * 4294967296 + c) % (d1 * 4294967296 + d0):Nat):Int) (s:Int)):=by
      refine Ev.unroll ?_
      simp only [bits_Div64.j4]
      refine Ev.pos (by trivial) ?_
      rw [wrap_dec (by omega) hqb,Nat.add_sub_cancel,← Int.natCast_add,wrap_nat hrb]
      by_cases hr2:r + d1 < 4294967296
      · refine Ev.neg (by omega) ?_
        exact ih q (r + d1) hs (by omega) (by omega) hr2
      · refine Ev.pos (by omega) (Ev.pos (by omega) (Ev.const ?_))
        rw [fin q (half_right hd (by omega) (half_out d1 d0 u c q (r + d1) hs hu hd0 (by omega)))]
    refine Ev.unroll ?_
    simp only [bits_Div64.l1]
    by_cases hb:q + 1 < 4294967296
    · refine Ev.neg (by omega) ?_
      rw [test_eq hb hd0 hr hc,decide_eq_true ht]
      exact go
    · exact Ev.pos (by omega) go
end
end Go.Proofs.YtakidmbnkkhojaaGreatM
end

section
namespace Go.Proofs.YtakidmbnkkhojaaGreatM
open Go.RowKit Go.Proofs.YtakidmbnkkhojaaGreatW.PrintWords Go.Proofs.YtakidmbnkkhojaaGreatW.PrintLast Go.Proofs.YtakidmbnkkhojaaGreatW.PrintMore Go.Proofs.YtakidmbnkkhojaaGreatX Go.Proofs.YtakidmbnkkhojaaGreat.F
set_option linter.unusedVariables false
set_option linter.unusedSimpArgs false
theorem pow_nat (n:Nat):(2:Int) ^ n=((2 ^ n:Nat):Int):=by rw [Int.natCast_pow];rfl
theorem shl_nat (x n:Nat) (hn:n≤64):shl .u64 (x:Int) (n:Int)=((x * 2 ^ n % 18446744073709551616:Nat):Int):=by
  unfold shl
  rw [Int.toNat_natCast,show min n IntKind.u64.bits=n from Nat.min_eq_left hn,pow_nat,← Int.natCast_mul,u64_wrap]
  rfl
theorem shr_nat (x n:Nat) (hn:n≤64):shr .u64 (x:Int) (n:Int)=((x / 2 ^ n:Nat):Int):=by
  unfold shr
  rw [Int.toNat_natCast,show min n IntKind.u64.bits=n from Nat.min_eq_left hn,pow_nat]
  rfl
theorem or_nat (x y n:Nat) (hx:x * 2 ^ n < 18446744073709551616) (hy:y < 2 ^ n) (hy2:y < 18446744073709551616):Go.bits .or .u64 ((x * 2 ^ n:Nat):Int) (y:Int)=((x * 2 ^ n + y:Nat):Int):=by
  rw [bits_or_u64_nat _ _ hx hy2,Nat.mul_comm,← Nat.two_pow_add_eq_or_of_lt hy x]
theorem lz_eq (y:Nat) (hy:y < 18446744073709551616) (k:Nat) (hk:0 < k):bits_LeadingZeros64.f k (y:Int)=some ((64 - sz y:Nat):Int):=by
  unfold bits_LeadingZeros64.f
  have:=sz_64 y hy
  rw [len64_eq y hy k hk,Option.bind_some,wrap_id (by omega)]
  congr 1
  omega
theorem norm_bd {y:Nat} (h0:0 < y) (hy:y < 18446744073709551616):9223372036854775808≤y * 2 ^ (64 - sz y)∧y * 2 ^ (64 - sz y) < 18446744073709551616:=by
  have h1:=sz_lt y
  have h2:=sz_le (n:=y) (by omega)
  have h3:=sz_64 y hy
  have h4:0 < sz y:=by
    rcases Nat.eq_zero_or_pos (sz y) with h|h
    · rw [h] at h1;omega
    · exact h
  have e1:2 ^ sz y * 2 ^ (64 - sz y)=18446744073709551616:=by rw [← Nat.pow_add,show sz y + (64 - sz y)=64 by omega]
  have e2:2 ^ (sz y - 1) * 2 ^ (64 - sz y)=9223372036854775808:=by rw [← Nat.pow_add,show sz y - 1 + (64 - sz y)=63 by omega]
  have hp:0 < 2 ^ (64 - sz y):=Nat.pow_pos (by decide)
  constructor
  · rw [← e2];exact Nat.mul_le_mul_right _ h2
  · rw [← e1];exact Nat.mul_lt_mul_of_pos_right h1 hp
theorem two_sum {D U1 c z q u:Nat} (h:D * q + u=U1 * 4294967296 + c):U1 * 18446744073709551616 + (c * 4294967296 + z)=D * (q * 4294967296) + (u * 4294967296 + z):=by
  have:D * (q * 4294967296)=D * q * 4294967296:=by rw [Nat.mul_assoc]
  omega
theorem two_halves {D U1 c z:Nat} (hD:0 < D):(U1 * 18446744073709551616 + (c * 4294967296 + z)) / D=(U1 * 4294967296 + c) / D * 4294967296 + ((U1 * 4294967296 + c) % D * 4294967296 + z) / D ∧
    (U1 * 18446744073709551616 + (c * 4294967296 + z)) % D=((U1 * 4294967296 + c) % D * 4294967296 + z) % D:=by
  rw [two_sum (z:=z) (Nat.div_add_mod (U1 * 4294967296 + c) D),Nat.mul_add_div hD,Nat.mul_add_mod]
  exact ⟨rfl,rfl⟩
theorem shift_lo (lo s:Nat) (hs:s≤64):lo * 2 ^ s=lo / 2 ^ (64 - s) * 18446744073709551616 + lo * 2 ^ s % 18446744073709551616:=by
  have e1:2 ^ (64 - s) * 2 ^ s=18446744073709551616:=by rw [← Nat.pow_add,show 64 - s + s=64 by omega]
  have h1:lo * 2 ^ s / 18446744073709551616=lo / 2 ^ (64 - s):=by rw [← e1,Nat.mul_div_mul_right _ _ (Nat.pow_pos (by decide))]
  rw [← h1]
  have:=Nat.div_add_mod (lo * 2 ^ s) 18446744073709551616
  omega
theorem d64_j2 (s d1 d0 U1 c z q1 u:Nat) (h21:q1 * (d1 * 4294967296 + d0) + u=U1 * 4294967296 + c) (hu:u < d1 * 4294967296 + d0) (hd1:0 < d1) (hd1b:d1 < 4294967296) (hd0:d0 < 4294967296) (hc:c < 4294967296) (hz:z < 4294967296) (hq1:q1 < 4294967296) (hs:s≤64) :
    Ev (fun k=>bits_Div64.j2 k ((d1 * 4294967296 + d0:Nat):Int) (s:Int) (d1:Int) (d0:Int) (U1:Int) (c:Int) (z:Int) (q1:Int))
      (((q1 * 4294967296 + (u * 4294967296 + z) / (d1 * 4294967296 + d0):Nat):Int),(((u * 4294967296 + z) % (d1 * 4294967296 + d0) / 2 ^ s:Nat):Int)):=by
  refine Ev.unroll ?_
  simp only [bits_Div64.j2]
  refine Ev.neg (by omega) ?_
  have eu:IntKind.u64.wrap (IntKind.u64.wrap (IntKind.u64.wrap ((U1:Int) * 4294967296) + (c:Int)) - IntKind.u64.wrap ((q1:Int) * ((d1 * 4294967296 + d0:Nat):Int)))=(u:Int):=by
    rw [← Int.natCast_mul]
    simp only [u64_wrap]
    generalize q1 * (d1 * 4294967296 + d0)=p at h21
    omega
  rw [eu]
  have hbu:=Nat.div_le_self u d1
  have hmu:=Nat.div_add_mod u d1
  have hru:=Nat.mod_lt u hd1
  rw [Nat.mul_comm] at hmu
  have eq3:Int.tdiv (u:Int) (d1:Int)=((u / d1:Nat):Int):=(Int.tdiv_eq_ediv_of_nonneg (by omega)).trans (by rfl)
  rw [eq3,wrap_nat (q:=u / d1) (by omega)]
  have er2:IntKind.u64.wrap ((u:Int) - IntKind.u64.wrap (((u / d1:Nat):Int) * (d1:Int)))=((u % d1:Nat):Int):=by
    rw [← Int.natCast_mul]
    generalize u / d1 * d1=p at hmu
    rw [wrap_nat (by omega),u64_id (by omega)]
    omega
  rw [er2,← shr_nat _ s hs]
  exact d64_l1 s d1 d0 u z q1 hu hd1 hd1b hd0 hz hq1 (u / d1 - (u * 4294967296 + z) / (d1 * 4294967296 + d0)) (u / d1) (u % d1) hmu (Nat.add_sub_cancel' (half_first d1 d0 u z hd1 hz)) (by omega) (by omega)
set_option maxRecDepth 10000 in
theorem div64_ev (hi lo y:Nat) (hy:hi < y) (hyb:y < 18446744073709551616) (hlo:lo < 18446744073709551616) :
    Ev (fun k=>bits_Div64.f k (hi:Int) (lo:Int) (y:Int)) (((hi * 18446744073709551616 + lo) / y:Nat),((hi * 18446744073709551616 + lo) % y:Nat)):=by
  unfold bits_Div64.f
  refine Ev.neg (by omega) (Ev.neg (by omega) ?_)
  by_cases h0:hi=0
  · subst h0
    refine Ev.pos (by omega) (Ev.const ?_)
    have hb:lo / y≤lo:=Nat.div_le_self _ _
    rw [show Int.tdiv (lo:Int) (y:Int)=((lo / y:Nat):Int) from (Int.tdiv_eq_ediv_of_nonneg (by omega)).trans (by rfl),show Int.tmod (lo:Int) (y:Int)=((lo % y:Nat):Int) from (Int.tmod_eq_emod_of_nonneg (by omega)).trans (by rfl),wrap_nat (by omega)]
    simp
  · refine Ev.neg (by omega) ?_
    have hy0:0 < y:=by omega
    have hs64:=sz_64 y hyb
    obtain ⟨n1,n2⟩:=norm_bd hy0 hyb
    refine Ev.bind (Ev.lt 0 (fun k hk=>lz_eq y hyb k hk)) ?_
    generalize hs:64 - sz y=s at *
    have hsle:s≤64:=by omega
    rw [wrap_nat (q:=s) (by omega)]
    have e64:IntKind.u64.wrap (64 - (s:Int))=((64 - s:Nat):Int):=by rw [u64_id (by omega)];omega
    rw [e64,shl_nat y s hsle,shl_nat hi s hsle,shl_nat lo s hsle,shr_nat lo (64 - s) (by omega),Nat.mod_eq_of_lt n2]
    have hp:0 < 2 ^ s:=Nat.pow_pos (by decide)
    have hhi:(hi + 1) * 2 ^ s≤y * 2 ^ s:=Nat.mul_le_mul_right _ hy
    have hhi2:(hi + 1) * 2 ^ s=hi * 2 ^ s + 2 ^ s:=by rw [Nat.add_mul,Nat.one_mul]
    have hlos:lo / 2 ^ (64 - s) < 2 ^ s:=by
      refine (Nat.div_lt_iff_lt_mul (Nat.pow_pos (by decide))).2 ?_
      rw [← Nat.pow_add,show s + (64 - s)=64 by omega]
      exact hlo
    rw [Nat.mod_eq_of_lt (a:=hi * 2 ^ s) (by omega),or_nat hi _ s (by omega) hlos (Nat.lt_of_le_of_lt (Nat.div_le_self _ _) hlo)]
    have hshift:=shift_lo lo s hsle
    have hL:lo * 2 ^ s % 18446744073709551616 < 18446744073709551616:=Nat.mod_lt _ (by decide)
    have hV:(hi * 18446744073709551616 + lo) * 2 ^ s=(hi * 2 ^ s + lo / 2 ^ (64 - s)) * 18446744073709551616 + lo * 2 ^ s % 18446744073709551616:=by
      rw [Nat.add_mul,Nat.add_mul]
      have:hi * 18446744073709551616 * 2 ^ s=hi * 2 ^ s * 18446744073709551616:=by rw [Nat.mul_right_comm]
      omega
    have eq1:(hi * 18446744073709551616 + lo) / y=(hi * 18446744073709551616 + lo) * 2 ^ s / (y * 2 ^ s):=(Nat.mul_div_mul_right _ _ hp).symm
    have em1:(hi * 18446744073709551616 + lo) % y=(hi * 18446744073709551616 + lo) * 2 ^ s % (y * 2 ^ s) / 2 ^ s:=by rw [Nat.mul_mod_mul_right,Nat.mul_div_cancel _ hp]
    rw [eq1,em1,hV]
    have hU:hi * 2 ^ s + lo / 2 ^ (64 - s) < y * 2 ^ s:=by omega
    generalize hi * 2 ^ s + lo / 2 ^ (64 - s)=U1 at *
    generalize lo * 2 ^ s % 18446744073709551616=L at *
    generalize y * 2 ^ s=D at *
    clear hhi hhi2 hlos hshift hV eq1 em1
    have ed : ∀ a:Nat,(a:Int) / 4294967296=((a / 4294967296:Nat):Int):=fun a=>by omega
    rw [mask32 D n2,mask32 L hL,ed D,ed L]
    have hD:D=D / 4294967296 * 4294967296 + D % 4294967296:=by omega
    have hLe:L=L / 4294967296 * 4294967296 + L % 4294967296:=by omega
    have hd1:0 < D / 4294967296∧D / 4294967296 < 4294967296:=by omega
    have hd0:D % 4294967296 < 4294967296:=by omega
    have hc:L / 4294967296 < 4294967296:=by omega
    have hz:L % 4294967296 < 4294967296:=by omega
    obtain ⟨t1,t2⟩:=two_halves (D:=D) (U1:=U1) (c:=L / 4294967296) (z:=L % 4294967296) (by omega)
    rw [← hLe] at t1 t2
    rw [t1,t2]
    generalize hgd1:D / 4294967296=d1 at *
    generalize hgd0:D % 4294967296=d0 at *
    generalize L / 4294967296=c at *
    generalize L % 4294967296=z at *
    have hbU:=Nat.div_le_self U1 d1
    have hmU:=Nat.div_add_mod U1 d1
    have hrU:=Nat.mod_lt U1 hd1.1
    rw [Nat.mul_comm] at hmU
    have eq2:Int.tdiv (U1:Int) (d1:Int)=((U1 / d1:Nat):Int):=(Int.tdiv_eq_ediv_of_nonneg (by omega)).trans (by rfl)
    refine Ev.pos (by omega) (Ev.pos (by omega) (Ev.neg (by omega) ?_))
    rw [eq2,wrap_nat (q:=U1 / d1) (by omega)]
    have er:IntKind.u64.wrap ((U1:Int) - IntKind.u64.wrap (((U1 / d1:Nat):Int) * (d1:Int)))=((U1 % d1:Nat):Int):=by
      rw [← Int.natCast_mul]
      generalize U1 / d1 * d1=p at *
      rw [wrap_nat (by omega),u64_id (by omega)]
      omega
    rw [er]
    subst hD
    have hq1:=half_lt (d1 * 4294967296 + d0) U1 c hU hc
    refine d64_l0 s d1 d0 U1 c z hU hd1.1 hd1.2 hd0 hc ?_ (U1 / d1 - (U1 * 4294967296 + c) / (d1 * 4294967296 + d0)) (U1 / d1) (U1 % d1) hmU (Nat.add_sub_cancel' (half_first d1 d0 U1 c hd1.1 hc)) (by omega) (by omega)
    exact d64_j2 s d1 d0 U1 c z _ _ (by rw [Nat.mul_comm];exact Nat.div_add_mod _ _) (Nat.mod_lt _ (by omega)) hd1.1 hd1.2 hd0 hc hz hq1 hsle
theorem vl_drop (B:Int) (l:List Int) (i:Nat) (h:i < l.length):vl B (l.drop i)=l.getD i 0 + B * vl B (l.drop (i + 1)):=by
  rw [List.drop_eq_getElem_cons h]
  show _ + B * _=_
  rw [List.getD_eq_getElem?_getD,List.getElem?_eq_getElem h]
  rfl
theorem drop_set_self (l:List Int) (i:Nat) (x:Int):(l.set i x).drop (i + 1)=l.drop (i + 1):=by
  rw [List.drop_set]
  rw [if_pos (by omega)]
theorem by_num {H d x r:Nat} (hd:0 < d) (hr:r=H % d):(H * 18446744073709551616 + x) / d=H / d * 18446744073709551616 + (r * 18446744073709551616 + x) / d∧(H * 18446744073709551616 + x) % d=(r * 18446744073709551616 + x) % d:=by
  have h:=Nat.div_add_mod H d
  rw [← hr] at h
  have e:H * 18446744073709551616 + x=d * (H / d * 18446744073709551616) + (r * 18446744073709551616 + x):=by
    have:d * (H / d * 18446744073709551616)=d * (H / d) * 18446744073709551616:=by rw [Nat.mul_assoc]
    omega
  rw [e,Nat.mul_add_div hd,Nat.mul_add_mod]
  exact ⟨rfl,rfl⟩
theorem by_l0 (l:List Int) (hl:wfW l) (hm:l.length < 4611686018427387904) (d:Nat) (hd:0 < d) (hdb:d < 18446744073709551616) : ∀ i:Nat,i≤l.length→∀ q:List Int,wfW q→q.length=l.length→∀ H:Nat,vW (l.drop i)=H→vW (q.drop i)=((H / d:Nat):Int) →
    ∃ q',wfW q'∧q'.length=l.length∧vW q'=(((vW l).toNat / d:Nat):Int)∧Ev (fun k=>quot_by.l0 k l (d:Int) q ((H % d:Nat):Int) ((i:Int) - 1)) (q',(((vW l).toNat % d:Nat):Int)):=by
  intro i
  induction i with
  | zero =>
    intro _ q hq hql H hH hv
    rw [List.drop_zero] at hH hv
    refine ⟨q,hq,hql,by rw [hv,hH,Int.toNat_natCast],?_⟩
    refine Ev.unroll ?_
    simp only [quot_by.l0]
    refine Ev.neg (by omega) (Ev.const ?_)
    rw [hH,Int.toNat_natCast]
  | succ i ih =>
    intro hi q hq hql H hH hv
    have wl:=wf_getD W_pos hl i
    rw [W_int] at wl
    obtain ⟨x,hx⟩:=Int.eq_ofNat_of_zero_le wl.1
    rw [hx] at wl
    have hr:=Nat.mod_lt H hd
    have hlt:(H % d * 18446744073709551616 + x) / d < 18446744073709551616:=by
      refine (Nat.div_lt_iff_lt_mul hd).2 ?_
      have:(H % d + 1) * 18446744073709551616≤d * 18446744073709551616:=Nat.mul_le_mul_right _ hr
      omega
    obtain ⟨n1,n2⟩:=by_num (H:=H) (x:=x) hd rfl
    have hH':vW (l.drop i)=((H * 18446744073709551616 + x:Nat):Int):=by
      show vl _ _=_
      rw [vl_drop _ _ _ (by omega),hx]
      simp only [vW] at hH
      rw [hH,W_int]
      omega
    have hv':vW ((q.set i ((H % d * 18446744073709551616 + x) / d:Nat)).drop i)=(((H * 18446744073709551616 + x) / d:Nat):Int):=by
      show vl _ _=_
      rw [vl_drop _ _ _ (by rw [List.length_set];omega),getD_set_self _ _ _ _ (by omega),drop_set_self]
      simp only [vW] at hv
      rw [hv,n1,W_int]
      omega
    obtain ⟨q',w1,w2,w3,w4⟩:=ih (by omega) (q.set i ((H % d * 18446744073709551616 + x) / d:Nat)) (wf_set hq _ ⟨Int.natCast_nonneg _,Int.ofNat_lt.2 hlt⟩) (by rw [List.length_set,hql]) (H * 18446744073709551616 + x) hH' hv'
    refine ⟨q',w1,w2,w3,?_⟩
    have e0:((i + 1:Nat):Int) - 1=(i:Int):=by omega
    have e1:wrap64 ((i:Int) - 1)=(i:Int) - 1:=wrap_id (by omega)
    refine Ev.unroll ?_
    simp only [quot_by.l0,e0,e1,rd_nat,hx,Int.toNat_natCast]
    refine Ev.pos (by omega) (Ev.pos (by omega) (Ev.pos (by omega) ?_))
    refine Ev.bind (div64_ev (H % d) x d hr hdb (by omega)) ?_
    refine Ev.pos (by omega) ?_
    rw [n2] at w4
    exact w4
theorem by_ev (l:List Int) (hl:wfW l) (hm:l.length < 35184372088832) (d:Nat) (hd:0 < d) (hdb:d < 18446744073709551616) :
    ∃ q',wfW q'∧q'.length=l.length∧vW q'=(((vW l).toNat / d:Nat):Int)∧Ev (fun k=>quot_by.f k l (d:Int)) (q',(((vW l).toNat % d:Nat):Int)):=by
  have h0:vW (l.drop l.length)=((0:Nat):Int):=by rw [List.drop_length];rfl
  have h1:vW ((List.replicate l.length (0:Int)).drop l.length)=((0 / d:Nat):Int):=by
    rw [List.drop_of_length_le (by simp),Nat.zero_div]
    rfl
  obtain ⟨q',w1,w2,w3,w4⟩:=by_l0 l hl (by omega) d hd hdb l.length (Nat.le_refl _) (List.replicate l.length 0) (wf_replicate W_pos _) List.length_replicate 0 h0 h1
  refine ⟨q',w1,w2,w3,?_⟩
  unfold quot_by.f
  rw [Int.toNat_natCast,wrap_id (x:=(l.length:Int) - 1) (by omega)]
  rw [Nat.zero_mod] at w4
  exact Ev.pos (by omega) (Ev.pos (by omega) w4)
theorem pow_le64 (n:Nat) (hn:n≤63):0 < 2 ^ n∧2 ^ n * 2 ^ (64 - n)=18446744073709551616:=by
  refine ⟨Nat.pow_pos (by decide),?_⟩
  rw [← Nat.pow_add,show n + (64 - n)=64 by omega]
theorem moved_bits (a x n:Nat) (hn:n≤63) (ha:a < 2 ^ n) (hx:x < 18446744073709551616) :
    Go.bits .or .u64 (a:Int) (shl .u64 (x:Int) (n:Int))=((a + x * 2 ^ n % 18446744073709551616:Nat):Int)∧a + x * 2 ^ n % 18446744073709551616 < 18446744073709551616 ∧
    x / 2 ^ (64 - n) < 2 ^ n∧x * 2 ^ n=x / 2 ^ (64 - n) * 18446744073709551616 + x * 2 ^ n % 18446744073709551616:=by
  obtain ⟨p1,p2⟩:=pow_le64 n hn
  have h1:x * 2 ^ n % 18446744073709551616=(x % 2 ^ (64 - n)) * 2 ^ n:=by rw [← p2,Nat.mul_comm (2 ^ n),Nat.mul_mod_mul_right]
  have h2:x % 2 ^ (64 - n) < 2 ^ (64 - n):=Nat.mod_lt _ (Nat.pow_pos (by decide))
  have h3:(x % 2 ^ (64 - n) + 1) * 2 ^ n≤2 ^ (64 - n) * 2 ^ n:=Nat.mul_le_mul_right _ h2
  have h4:(x % 2 ^ (64 - n) + 1) * 2 ^ n=(x % 2 ^ (64 - n)) * 2 ^ n + 2 ^ n:=by rw [Nat.add_mul,Nat.one_mul]
  have h5:2 ^ (64 - n) * 2 ^ n=18446744073709551616:=by rw [Nat.mul_comm];exact p2
  have hlt:a + (x % 2 ^ (64 - n)) * 2 ^ n < 18446744073709551616:=by omega
  refine ⟨?_,by rw [h1];exact hlt,?_,shift_lo x n (by omega)⟩
  · rw [shl_nat x n (by omega),h1]
    have hor:a ||| (x % 2 ^ (64 - n)) * 2 ^ n=a + (x % 2 ^ (64 - n)) * 2 ^ n:=by
      rw [Nat.or_comm,Nat.mul_comm,← Nat.two_pow_add_eq_or_of_lt ha,Nat.add_comm]
    rw [bits_or_u64_nat _ _ (by omega) (by omega),hor]
  · refine (Nat.div_lt_iff_lt_mul (Nat.pow_pos (by decide))).2 ?_
    rw [Nat.mul_comm (2 ^ n),h5]
    exact hx
theorem moved_val {p s x a b w X Y:Int} (h1:X=Y * s) (h2:x * s=b * w + a):X + p * a + p * w * b=(Y + p * x) * s:=by
  have:(Y + p * x) * s=Y * s + p * (x * s):=by grind
  rw [this,h2,h1]
  grind
structure MovInv (l out:List Int) (p:Int) (i:Nat):Prop where
  w:wfW out
  len:out.length=l.length + 1
  small:out.getD i 0 < p
  v:vW (out.take (i + 1))=vW (l.take i) * p
theorem set_two (w:Int) (out:List Int) (A B:Int) (i:Nat) (h:i + 1 < out.length):((out.set i A).set (i + 1) B).getD (i + 1) 0=B∧vl w (((out.set i A).set (i + 1) B).take (i + 1 + 1))=vl w (out.take i) + w ^ i * A + w ^ i * w * B:=by
  have h1:((out.set i A).set (i + 1) B).getD (i + 1) 0=B:=getD_set_self _ _ _ _ (by rw [List.length_set];omega)
  refine ⟨h1,?_⟩
  rw [vl_take_succ,h1,List.take_set_of_le (Nat.le_refl _),vl_take_succ,getD_set_self _ _ _ _ (by omega),List.take_set_of_le (Nat.le_refl _),Int.pow_succ]
theorem cast_lt {a b:Nat} (h:a < b):(a:Int) < (b:Int):=Int.ofNat_lt.2 h
theorem moved_l0 (l:List Int) (hl:wfW l) (hm:l.length < 4611686018427387904) (n p:Nat) (hn:n≤63) (hp:2 ^ n=p) : ∀ d i:Nat,i + d=l.length→∀ out,MovInv l out (p:Int) i →
    ∃ r,wfW r∧r.length=l.length + 1∧vW r=vW l * (p:Int)∧Ev (fun k=>quot_moved.l0 k (n:Int) out l (l.length:Int) (i:Int)) r:=by
  intro d
  induction d with
  | zero =>
    intro i hi out h
    have hi':i=l.length:=by omega
    subst hi'
    refine ⟨out,h.w,h.len,?_,?_⟩
    · have hv:=h.v
      rw [show out.take (l.length + 1)=out from List.take_of_length_le (by rw [h.len];omega),show l.take l.length=l from List.take_of_length_le (Nat.le_refl _)] at hv
      exact hv
    · refine Ev.unroll ?_
      simp only [quot_moved.l0]
      exact Ev.neg (by omega) (Ev.const rfl)
  | succ d ih =>
    intro i hi out h
    have wl:=wf_getD W_pos hl i
    have wo:=wf_getD W_pos h.w i
    rw [W_int] at wl wo
    obtain ⟨x,hx⟩:=Int.eq_ofNat_of_zero_le wl.1
    obtain ⟨a,ha⟩:=Int.eq_ofNat_of_zero_le wo.1
    rw [hx] at wl
    have hs:=h.small
    rw [ha] at wo hs
    have hs':a < p:=Int.ofNat_lt.1 hs
    have hlen:=h.len
    have hi1:i + 1 < out.length:=by omega
    have hi2:i + 1 + d=l.length:=by omega
    have f1:(i:Int) < (l.length:Int):=by omega
    have f2:(i:Int) < (out.length:Int):=by omega
    have f3:((i + 1:Nat):Int) < (out.length:Int):=by omega
    have f0 : ∀ q:Nat,(0:Int)≤(q:Int):=fun q=>Int.natCast_nonneg q
    obtain ⟨b1,b2,b3,b4⟩:=moved_bits a x n hn (by rw [hp];exact hs') (by omega)
    have b5:x / 2 ^ (64 - n) < 18446744073709551616:=Nat.lt_of_le_of_lt (Nat.div_le_self _ _) (by omega)
    have e1:wrap64 ((i:Int) + 1)=((i + 1:Nat):Int):=by rw [wrap_id (by omega)];omega
    have e2:IntKind.u64.wrap (64 - (n:Int))=((64 - n:Nat):Int):=by rw [u64_id (by omega)];omega
    have hsh:=shr_nat x (64 - n) (by omega)
    rw [hp] at b1 b2 b3 b4
    generalize x / 2 ^ (64 - n)=c at b3 b4 b5 hsh
    generalize hz:x * p % 18446744073709551616=z at b1 b2 b4
    have wA:(0:Int)≤((a + z:Nat):Int)∧((a + z:Nat):Int) < ((W:Nat):Int):=by rw [W_int];clear hsh b1 e2 h;omega
    have wC:(0:Int)≤(c:Int)∧(c:Int) < ((W:Nat):Int):=by rw [W_int];clear hsh b1 e2;omega
    obtain ⟨t1,t2⟩:=set_two ((W:Nat):Int) out ((a + z:Nat):Int) (c:Int) i hi1
    have hv:=h.v
    simp only [vW] at hv
    rw [vl_take_succ,ha] at hv
    have b4':(x:Int) * (p:Int)=(c:Int) * ((W:Nat):Int) + (z:Int):=by
      rw [← Int.natCast_mul,← Int.natCast_mul,← Int.natCast_add]
      exact congrArg _ b4
    have hv':vl ((W:Nat):Int) (((out.set i ((a + z:Nat):Int)).set (i + 1) (c:Int)).take (i + 1 + 1))=vl ((W:Nat):Int) (l.take (i + 1)) * (p:Int):=by
      rw [t2,vl_take_succ _ l,hx,Int.natCast_add]
      have:=moved_val (p:=((W:Nat):Int) ^ i) hv b4'
      rw [← this]
      generalize ((W:Nat):Int) ^ i=P
      generalize vl ((W:Nat):Int) (out.take i)=Q
      grind
    obtain ⟨r,r1,r2,r3,r4⟩:=ih (i + 1) hi2 ((out.set i ((a + z:Nat):Int)).set (i + 1) (c:Int)) ⟨wf_set (wf_set h.w _ wA) _ wC,by rw [List.length_set,List.length_set,hlen],by rw [t1];exact cast_lt b3,hv'⟩
    refine ⟨r,r1,r2,r3,?_⟩
    refine Ev.unroll ?_
    simp only [quot_moved.l0,e1,e2,rd_nat,hx,ha,Int.toNat_natCast,b1,hsh]
    exact Ev.pos f1 (Ev.pos (f0 i) (Ev.pos f1 (Ev.pos f2 (Ev.pos (f0 n) (Ev.pos (f0 _) (Ev.pos (f0 _) (Ev.pos f3 r4)))))))
theorem moved_ev (l:List Int) (hl:wfW l) (hm:l.length < 35184372088831) (n:Nat) (hn:n≤63) :
    ∃ r,wfW r∧r.length=l.length + 1∧vW r=vW l * ((2 ^ n:Nat):Int)∧Ev (fun k=>quot_moved.f k l (n:Int)) r:=by
  have hp:=(pow_le64 n hn).1
  have hsm:(List.replicate (l.length + 1) (0:Int)).getD 0 0 < ((2 ^ n:Nat):Int):=by
    rw [show (List.replicate (l.length + 1) (0:Int)).getD 0 0=0 from rfl]
    exact Int.natCast_pos.2 hp
  have hv0:vW ((List.replicate (l.length + 1) (0:Int)).take (0 + 1))=vW (l.take 0) * ((2 ^ n:Nat):Int):=by
    show vl _ _=vl _ _ * _
    rw [List.take_zero,List.take_replicate,vl_replicate,show vl ((W:Nat):Int) ([]:List Int)=0 from rfl,Int.zero_mul]
  obtain ⟨r,r1,r2,r3,r4⟩:=moved_l0 l hl (by omega) n (2 ^ n) hn rfl l.length 0 (Nat.zero_add _) (List.replicate (l.length + 1) 0)
    ⟨wf_replicate W_pos _,List.length_replicate,hsm,hv0⟩
  refine ⟨r,r1,r2,r3,?_⟩
  unfold quot_moved.f
  have e1:wrap64 ((l.length:Int) + 1)=((l.length + 1:Nat):Int):=by rw [wrap_id (by omega)];omega
  rw [e1,Int.toNat_natCast]
  exact Ev.pos (by omega) (Ev.pos (by omega) r4)
theorem less_step (x q c b u:Nat) (hx:x < 18446744073709551616) (hq:q < 18446744073709551616) (hc:c < 18446744073709551616) (hb:b≤1) (hu:u < 18446744073709551616) :
    ∃ c' b' s:Nat,c' < 18446744073709551616∧b'≤1∧s < 18446744073709551616 ∧
      IntKind.u64.wrap (((x * q / 18446744073709551616:Nat):Int) + add64c ((x * q % 18446744073709551616:Nat):Int) (c:Int) 0)=(c':Int) ∧
      sub64b (u:Int) (add64s ((x * q % 18446744073709551616:Nat):Int) (c:Int) 0) (b:Int)=(b':Int)∧sub64d (u:Int) (add64s ((x * q % 18446744073709551616:Nat):Int) (c:Int) 0) (b:Int)=(s:Int) ∧
      (s:Int) + (x:Int) * (q:Int) + (c:Int) + (b:Int)=(u:Int) + ((c':Int) + (b':Int)) * 18446744073709551616:=by
  have h1:x * q≤18446744073709551615 * 18446744073709551615:=Nat.mul_le_mul (by omega) (by omega)
  rw [← Int.natCast_mul]
  generalize x * q=p at *
  have f1:add64s ((p % 18446744073709551616:Nat):Int) (c:Int) 0=(((p % 18446744073709551616 + c) % 18446744073709551616:Nat):Int):=by unfold add64s;omega
  have f2:add64c ((p % 18446744073709551616:Nat):Int) (c:Int) 0=(((p % 18446744073709551616 + c) / 18446744073709551616:Nat):Int):=by unfold add64c;omega
  have g0:p % 18446744073709551616 < 18446744073709551616:=Nat.mod_lt _ (by decide)
  have hl:(p % 18446744073709551616 + c) % 18446744073709551616 < 18446744073709551616:=Nat.mod_lt _ (by decide)
  have h2:p / 18446744073709551616 + (p % 18446744073709551616 + c) / 18446744073709551616 < 18446744073709551616:=by omega
  have h3:p + c=(p / 18446744073709551616 + (p % 18446744073709551616 + c) / 18446744073709551616) * 18446744073709551616 + (p % 18446744073709551616 + c) % 18446744073709551616:=by omega
  obtain ⟨s1,s2,s3⟩:=sub64_b (x:=(u:Int)) (y:=(((p % 18446744073709551616 + c) % 18446744073709551616:Nat):Int)) (c:=(b:Int)) (by omega) ⟨Int.natCast_nonneg _,Int.ofNat_lt.2 hl⟩ (by omega)
  obtain ⟨b',hb'⟩:=Int.eq_ofNat_of_zero_le s2.1
  obtain ⟨s,hs⟩:=Int.eq_ofNat_of_zero_le s1.1
  rw [f1,f2,← Int.natCast_add]
  refine ⟨_,b',s,h2,by rw [hb'] at s2;omega,by rw [hs] at s1;omega,wrapN _ h2,hb',hs,?_⟩
  rw [hb',hs] at s3
  clear f1 f2 hb' hs s1 s2
  generalize (p / 18446744073709551616 + (p % 18446744073709551616 + c) / 18446744073709551616)=c' at h3 h2 ⊢
  generalize (p % 18446744073709551616 + c) % 18446744073709551616=lo at h3 s3
  omega
structure LessInv (u d x:List Int) (q c b:Nat) (i:Nat):Prop where
  w:wfW x
  len:x.length=u.length
  c0:c < 18446744073709551616
  b0:b≤1
  z : ∀ j,i≤j→x.getD j 0=u.getD j 0
  v:vW x + (q:Int) * vW (d.take i)=vW u + ((c:Int) + (b:Int)) * ((W:Nat):Int) ^ i
theorem less_val {X Q D U c b c' b' P w s x u:Int} (hv:X + Q * D=U + (c + b) * P) (hs:s + x * Q + c + b=u + (c' + b') * w):X + P * (s - u) + Q * (D + P * x)=U + (c' + b') * (P * w):=by
  have:P * (s + x * Q + c + b)=P * (u + (c' + b') * w):=by rw [hs]
  grind
theorem less_l0 (u d:List Int) (hu:wfW u) (hd:wfW d) (q:Nat) (hq:q < 18446744073709551616) (hlen:u.length=d.length + 1) (hm:u.length < 4611686018427387904) :
    ∀ e i:Nat,i + e=d.length→∀ (x:List Int) (c b:Nat),LessInv u d x q c b i→∃ (x':List Int) (b':Nat),wfW x'∧x'.length=u.length∧b'≤1∧vW x' + (q:Int) * vW d=vW u + (b':Int) * ((W:Nat):Int) ^ u.length ∧
      Ev (fun k=>quot_less.l0 k x d (q:Int) (c:Int) (b:Int) d (d.length:Int) (i:Int)) ((b':Int),x'):=by
  intro e
  induction e with
  | zero =>
    intro i hi x c b h
    have hi':i=d.length:=by omega
    subst hi'
    have wu:=wf_getD W_pos hu d.length
    rw [W_int] at wu
    obtain ⟨t,ht⟩:=Int.eq_ofNat_of_zero_le wu.1
    rw [ht] at wu
    have hxl:=h.len
    have hc0:=h.c0
    have hb0:=h.b0
    have hz:=h.z _ (Nat.le_refl d.length)
    obtain ⟨s1,s2,s3⟩:=sub64_b (x:=(t:Int)) (y:=(c:Int)) (c:=(b:Int)) (by omega) (by omega) (by omega)
    obtain ⟨b',hb'⟩:=Int.eq_ofNat_of_zero_le s2.1
    have f1:(d.length:Int) < (x.length:Int):=by omega
    have f2:(b:Int)≤1:=by omega
    have f3:b'≤1:=by rw [hb'] at s2;omega
    refine ⟨x.set d.length (sub64d (t:Int) (c:Int) (b:Int)),b',wf_set h.w _ (by rw [W_int];exact s1),by rw [List.length_set,hxl],f3,?_,?_⟩
    · have hv:=h.v
      rw [show d.take d.length=d from List.take_of_length_le (Nat.le_refl _)] at hv
      show vl _ _ + _=_
      rw [vl_set _ _ _ _ (by omega),hz,ht,hlen,Int.pow_succ,W_int]
      simp only [vW] at hv ⊢
      rw [hb'] at s3
      rw [W_int] at hv
      generalize (18446744073709551616:Int) ^ d.length=P at *
      have e1:sub64d (t:Int) (c:Int) (b:Int)=(t:Int) - (c:Int) - (b:Int) + 18446744073709551616 * (b':Int):=by omega
      rw [e1]
      clear s1 s2 s3 e1 hb'
      grind
    · refine Ev.unroll ?_
      simp only [quot_less.l0,Int.toNat_natCast,rd_nat,hz,ht]
      refine Ev.neg (by omega) (Ev.pos (Int.natCast_nonneg _) (Ev.pos f1 (Ev.pos f2 (Ev.const ?_))))
      rw [hb']
  | succ e ih =>
    intro i hi x c b h
    have wu:=wf_getD W_pos hu i
    have wd:=wf_getD W_pos hd i
    rw [W_int] at wu wd
    obtain ⟨t,ht⟩:=Int.eq_ofNat_of_zero_le wu.1
    obtain ⟨y,hy⟩:=Int.eq_ofNat_of_zero_le wd.1
    rw [ht] at wu
    rw [hy] at wd
    have hxl:=h.len
    have hz:=h.z _ (Nat.le_refl i)
    have hb0:=h.b0
    have f1:(i:Int) < (d.length:Int):=by omega
    have f2:(i:Int) < (x.length:Int):=by omega
    have f3:(b:Int)≤1:=by omega
    have f4:i < x.length:=by omega
    have f5:i + 1 + e=d.length:=by omega
    have f7 : ∀ j,i + 1≤j→i≠j∧i≤j:=fun j hj=>by omega
    have yb:y < 18446744073709551616:=by omega
    have tb:t < 18446744073709551616:=by omega
    have e1:wrap64 ((i:Int) + 1)=((i + 1:Nat):Int):=by rw [wrap_id (by omega)];omega
    obtain ⟨c',b',s,k1,k2,k3,k4,k5,k6,k7⟩:=less_step y q c b t yb hq h.c0 hb0 tb
    have ws:(0:Int)≤(s:Int)∧(s:Int) < ((W:Nat):Int):=by rw [W_int];clear k4 k5 k6 k7 h e1;omega
    have hv':vW (x.set i (s:Int)) + (q:Int) * vW (d.take (i + 1))=vW u + ((c':Int) + (b':Int)) * ((W:Nat):Int) ^ (i + 1):=by
      show vl _ _ + _ * vl _ _=_
      have hv:=h.v
      simp only [vW] at hv ⊢
      rw [vl_set _ _ _ _ f4,hz,ht,vl_take_succ,hy,Int.pow_succ]
      exact less_val hv (by rw [W_int];exact k7)
    obtain ⟨x',b2,r1,r2,r3,r4,r5⟩:=ih (i + 1) f5 (x.set i (s:Int)) c' b' ⟨wf_set h.w _ ws,by rw [List.length_set,hxl],k1,k2,fun j hj=>by rw [getD_set_ne _ _ _ _ _ (f7 j hj).1];exact h.z j (f7 j hj).2,hv'⟩
    refine ⟨x',b2,r1,r2,r3,r4,?_⟩
    refine Ev.unroll ?_
    simp only [quot_less.l0,Int.toNat_natCast,rd_nat,hz,ht,hy,e1]
    refine Ev.pos f1 (Ev.pos (Int.natCast_nonneg _) (Ev.pos f1 ?_))
    rw [mul64_eq y q yb hq]
    simp only [Option.bind_some,k4,k5,k6]
    exact Ev.pos f2 (Ev.pos f3 r5)
theorem less_ev (u d:List Int) (hu:wfW u) (hd:wfW d) (q:Nat) (hq:q < 18446744073709551616) (hlen:u.length=d.length + 1) (hm:u.length < 4611686018427387904) :
    ∃ (x':List Int) (b':Nat),wfW x'∧x'.length=u.length∧b'≤1∧vW x' + (q:Int) * vW d=vW u + (b':Int) * ((W:Nat):Int) ^ u.length∧Ev (fun k=>quot_less.f k u d (q:Int)) ((b':Int),x'):=by
  have:=less_l0 u d hu hd q hq hlen hm d.length 0 (Nat.zero_add _) u 0 0 ⟨hu,rfl,by decide,by decide,fun _ _=>rfl,by
    show vl _ _ + _ * vl _ _=_
    rw [List.take_zero,show vl ((W:Nat):Int) ([]:List Int)=0 from rfl]
    simp [vW]⟩
  unfold quot_less.f
  exact this
structure BackInv (u d x:List Int) (c:Nat) (i:Nat):Prop where
  w:wfW x
  len:x.length=u.length
  c0:c≤1
  z : ∀ j,i≤j→x.getD j 0=u.getD j 0
  v:vW x + (c:Int) * ((W:Nat):Int) ^ i=vW u + vW (d.take i)
theorem back_val {X D U c c' P w s x u:Int} (hv:X + c * P=U + D) (hs:s + w * c'=u + x + c):X + P * (s - u) + c' * (P * w)=U + (D + P * x):=by
  have:P * (s + w * c')=P * (u + x + c):=by rw [hs]
  grind
theorem back_l0 (u d:List Int) (hu:wfW u) (hd:wfW d) (hlen:u.length=d.length + 1) (hm:u.length < 4611686018427387904) :
    ∀ e i:Nat,i + e=d.length→∀ (x:List Int) (c:Nat),BackInv u d x c i→∃ (x':List Int) (b':Nat),wfW x'∧x'.length=u.length∧b'≤1∧vW x' + (b':Int) * ((W:Nat):Int) ^ u.length=vW u + vW d ∧
      Ev (fun k=>quot_back.l0 k x d (c:Int) d (d.length:Int) (i:Int)) x':=by
  intro e
  induction e with
  | zero =>
    intro i hi x c h
    have hi':i=d.length:=by omega
    subst hi'
    have wu:=wf_getD W_pos hu d.length
    rw [W_int] at wu
    obtain ⟨t,ht⟩:=Int.eq_ofNat_of_zero_le wu.1
    rw [ht] at wu
    have hxl:=h.len
    have hc0:=h.c0
    have hz:=h.z _ (Nat.le_refl d.length)
    have f1:(d.length:Int) < (x.length:Int):=by omega
    have f4:d.length < x.length:=by omega
    have g1:IntKind.u64.wrap ((t:Int) + (c:Int))=(((t + c) % 18446744073709551616:Nat):Int):=by rw [u64_wrap];omega
    have g2:(t + c) % 18446744073709551616 < 18446744073709551616:=Nat.mod_lt _ (by decide)
    have g3:(t + c) / 18446744073709551616≤1:=by omega
    have g4:(((t + c) % 18446744073709551616:Nat):Int) + 18446744073709551616 * (((t + c) / 18446744073709551616:Nat):Int)=(t:Int) + (c:Int):=by omega
    have ws:(0:Int)≤(((t + c) % 18446744073709551616:Nat):Int)∧(((t + c) % 18446744073709551616:Nat):Int) < ((W:Nat):Int):=by rw [W_int];clear h;omega
    refine ⟨x.set d.length (((t + c) % 18446744073709551616:Nat):Int),(t + c) / 18446744073709551616,wf_set h.w _ ws,by rw [List.length_set,hxl],g3,?_,?_⟩
    · have hv:=h.v
      rw [show d.take d.length=d from List.take_of_length_le (Nat.le_refl _)] at hv
      show vl _ _ + _=_
      rw [vl_set _ _ _ _ f4,hz,ht,hlen,Int.pow_succ,W_int]
      simp only [vW] at hv ⊢
      rw [W_int] at hv
      generalize (18446744073709551616:Int) ^ d.length=P at *
      generalize (((t + c) % 18446744073709551616:Nat):Int)=s at *
      generalize (((t + c) / 18446744073709551616:Nat):Int)=b' at *
      have:P * (s + 18446744073709551616 * b')=P * ((t:Int) + (c:Int)):=by rw [g4]
      clear g1 ws
      grind
    · refine Ev.unroll ?_
      simp only [quot_back.l0,Int.toNat_natCast,rd_nat,hz,ht,g1]
      exact Ev.neg (by omega) (Ev.pos (Int.natCast_nonneg _) (Ev.pos f1 (Ev.const rfl)))
  | succ e ih =>
    intro i hi x c h
    have wu:=wf_getD W_pos hu i
    have wd:=wf_getD W_pos hd i
    rw [W_int] at wu wd
    obtain ⟨t,ht⟩:=Int.eq_ofNat_of_zero_le wu.1
    obtain ⟨y,hy⟩:=Int.eq_ofNat_of_zero_le wd.1
    rw [ht] at wu
    rw [hy] at wd
    have hxl:=h.len
    have hz:=h.z _ (Nat.le_refl i)
    have hc0:=h.c0
    have f1:(i:Int) < (d.length:Int):=by omega
    have f2:(i:Int) < (x.length:Int):=by omega
    have f3:(c:Int)≤1:=by omega
    have f4:i < x.length:=by omega
    have f5:i + 1 + e=d.length:=by omega
    have f7 : ∀ j,i + 1≤j→i≠j∧i≤j:=fun j hj=>by omega
    have yb:y < 18446744073709551616:=by omega
    have tb:t < 18446744073709551616:=by omega
    have cb:(0:Int)≤(c:Int)∧(c:Int)≤1:=by omega
    have e1:wrap64 ((i:Int) + 1)=((i + 1:Nat):Int):=by rw [wrap_id (by omega)];omega
    obtain ⟨s1,s2,s3⟩:=add64_b (x:=(t:Int)) (y:=(y:Int)) (c:=(c:Int)) wu wd cb
    obtain ⟨c',hc'⟩:=Int.eq_ofNat_of_zero_le s2.1
    have f6:c'≤1:=by rw [hc'] at s2;clear e1 s1 s3 hc';omega
    rw [hc'] at s3
    have hv':vW (x.set i (add64s (t:Int) (y:Int) (c:Int))) + (c':Int) * ((W:Nat):Int) ^ (i + 1)=vW u + vW (d.take (i + 1)):=by
      show vl _ _ + _=_ + vl _ _
      have hv:=h.v
      simp only [vW] at hv ⊢
      rw [vl_set _ _ _ _ f4,hz,ht,vl_take_succ,hy,Int.pow_succ]
      exact back_val hv (by rw [W_int];exact s3)
    obtain ⟨x',b2,r1,r2,r3,r4,r5⟩:=ih (i + 1) f5 (x.set i (add64s (t:Int) (y:Int) (c:Int))) c' ⟨wf_set h.w _ (by rw [W_int];exact s1),by rw [List.length_set,hxl],f6,fun j hj=>by rw [getD_set_ne _ _ _ _ _ (f7 j hj).1];exact h.z j (f7 j hj).2,hv'⟩
    refine ⟨x',b2,r1,r2,r3,r4,?_⟩
    refine Ev.unroll ?_
    simp only [quot_back.l0,Int.toNat_natCast,rd_nat,hz,ht,hy,e1,hc']
    exact Ev.pos f1 (Ev.pos (Int.natCast_nonneg _) (Ev.pos f1 (Ev.pos f2 (Ev.pos f3 r5))))
theorem back_ev (u d:List Int) (hu:wfW u) (hd:wfW d) (hlen:u.length=d.length + 1) (hm:u.length < 4611686018427387904) :
    ∃ (x':List Int) (b':Nat),wfW x'∧x'.length=u.length∧b'≤1∧vW x' + (b':Int) * ((W:Nat):Int) ^ u.length=vW u + vW d∧Ev (fun k=>quot_back.f k u d) x':=by
  have:=back_l0 u d hu hd hlen hm d.length 0 (Nat.zero_add _) u 0 ⟨hu,rfl,by decide,fun _ _=>rfl,by
    show _ + _=_ + vl _ _
    rw [List.take_zero,show vl ((W:Nat):Int) ([]:List Int)=0 from rfl]
    simp [vW]⟩
  unfold quot_back.f
  exact this
theorem guess_more (t n3 d1 d2 q r U D P:Nat) (hq:q * d1 + r=t) (h : ¬ q * d2≤r * 18446744073709551616 + n3) (hU:U < (t * 18446744073709551616 + n3 + 1) * P) (hD:(d1 * 18446744073709551616 + d2) * P≤D):U < q * D:=by
  have h1:t * 18446744073709551616 + n3 + 1≤q * (d1 * 18446744073709551616 + d2):=by
    have e:q * (d1 * 18446744073709551616 + d2) + r * 18446744073709551616=t * 18446744073709551616 + q * d2:=by
      subst hq
      grind
    omega
  have h2:(t * 18446744073709551616 + n3 + 1) * P≤q * (d1 * 18446744073709551616 + d2) * P:=Nat.mul_le_mul_right _ h1
  have h3:q * ((d1 * 18446744073709551616 + d2) * P)≤q * D:=Nat.mul_le_mul_left _ hD
  rw [Nat.mul_assoc] at h2
  omega
theorem guess_first (t n3 d1 d2 U D P:Nat) (hd1:0 < d1) (hU:U < (t * 18446744073709551616 + n3 + 1) * P) (hn3:n3 < 18446744073709551616) (hD:(d1 * 18446744073709551616 + d2) * P≤D) (hP:0 < P):U / D≤t / d1:=by
  have hD0:0 < D:=Nat.lt_of_lt_of_le (Nat.mul_pos (by omega) hP) hD
  refine (Nat.le_div_iff_mul_le hd1).2 ?_
  have h1:=Nat.div_mul_le_self U D
  generalize U / D=q at *
  have h2:q * ((d1 * 18446744073709551616 + d2) * P)≤q * D:=Nat.mul_le_mul_left _ hD
  have h3:q * (d1 * 18446744073709551616 + d2) * P < (t * 18446744073709551616 + n3 + 1) * P:=by rw [Nat.mul_assoc];omega
  have h4:q * (d1 * 18446744073709551616 + d2) < t * 18446744073709551616 + n3 + 1:=Nat.lt_of_mul_lt_mul_right h3
  have h5:q * (d1 * 18446744073709551616 + d2)=q * d1 * 18446744073709551616 + q * d2:=by grind
  omega
theorem guess_l0 (d:List Int) (hd:wfW d) (h2:2≤d.length) (hm:d.length < 4611686018427387904) (d1 d2 n3 U D P t:Nat) (e1:d.getD (d.length - 1) 0=(d1:Int)) (e2:d.getD (d.length - 2) 0=(d2:Int))
    (hd1:d1 < 18446744073709551616) (hd2:d2 < 18446744073709551616) (hn3:n3 < 18446744073709551616) (hU:U < (t * 18446744073709551616 + n3 + 1) * P) (hD:(d1 * 18446744073709551616 + d2) * P≤D) (hD0:0 < D) (n:Nat) :
    ∀ q r:Nat,q * d1 + r=t→U / D + n=q→q < 18446744073709551616→r < 18446744073709551616 →
      ∃ g:Nat,U / D≤g∧g≤q∧Ev (fun k=>quot_guess.l0 k d (d.length:Int) (n3:Int) (q:Int) (r:Int)) (g:Int):=by
  have i1:wrap64 ((d.length:Int) - 1)=((d.length - 1:Nat):Int):=by rw [wrap_id (by omega)];omega
  have i2:wrap64 ((d.length:Int) - 2)=((d.length - 2:Nat):Int):=by rw [wrap_id (by omega)];omega
  have f1:((d.length - 1:Nat):Int) < (d.length:Int):=by clear i1 i2 e1 e2;omega
  have f2:((d.length - 2:Nat):Int) < (d.length:Int):=by clear i1 i2 e1 e2;omega
  have stop : ∀ q r:Nat,q < 18446744073709551616→r < 18446744073709551616→q * d2≤r * 18446744073709551616 + n3→Ev (fun k=>quot_guess.l0 k d (d.length:Int) (n3:Int) (q:Int) (r:Int)) (q:Int):=by
    intro q r hq hr ht
    refine Ev.unroll ?_
    simp only [quot_guess.l0,i2,rd_nat,e2]
    refine Ev.pos (Int.natCast_nonneg _) (Ev.pos f2 ?_)
    rw [mul64_eq q d2 hq hd2]
    simp only [Option.bind_some]
    have j:Ev (fun k=>quot_guess.j1 k d (d.length:Int) (n3:Int) (q:Int) (r:Int) true) (q:Int):=by
      refine Ev.unroll ?_
      simp only [quot_guess.j1,if_true]
      exact Ev.const rfl
    clear i1 i2 e1 e2 f1 f2 hU hD
    by_cases a:q * d2 / 18446744073709551616 < r
    · exact Ev.pos (by omega) j
    · refine Ev.neg (by omega) ?_
      have b:q * d2 / 18446744073709551616=r:=by omega
      refine Ev.pos (by omega) ?_
      rw [decide_eq_true (by omega)]
      exact j
  have goon : ∀ q r:Nat,0 < q→q < 18446744073709551616→r < 18446744073709551616→¬ q * d2≤r * 18446744073709551616 + n3→∀ g:Nat,
      (r + d1 < 18446744073709551616→Ev (fun k=>quot_guess.l0 k d (d.length:Int) (n3:Int) ((q - 1:Nat):Int) ((r + d1:Nat):Int)) (g:Int))→(18446744073709551616≤r + d1→g=q - 1) →
      Ev (fun k=>quot_guess.l0 k d (d.length:Int) (n3:Int) (q:Int) (r:Int)) (g:Int):=by
    intro q r hq0 hq hr ht g hA hB
    refine Ev.unroll ?_
    simp only [quot_guess.l0,i2,rd_nat,e2]
    refine Ev.pos (Int.natCast_nonneg _) (Ev.pos f2 ?_)
    rw [mul64_eq q d2 hq hd2]
    simp only [Option.bind_some]
    have w1:IntKind.u64.wrap ((q:Int) - 1)=((q - 1:Nat):Int):=wrap_dec hq0 hq
    have j:Ev (fun k=>quot_guess.j1 k d (d.length:Int) (n3:Int) (q:Int) (r:Int) false) (g:Int):=by
      refine Ev.unroll ?_
      simp only [quot_guess.j1,i1,rd_nat,e1,w1]
      refine Ev.neg (by decide) (Ev.pos (Int.natCast_nonneg _) (Ev.pos f1 ?_))
      have a1:add64s (r:Int) (d1:Int) 0=(((r + d1) % 18446744073709551616:Nat):Int):=by clear i1 i2 e1 e2 f1 f2 hU hD w1;unfold add64s;omega
      have a2:add64c (r:Int) (d1:Int) 0=(((r + d1) / 18446744073709551616:Nat):Int):=by clear i1 i2 e1 e2 f1 f2 hU hD w1 a1;unfold add64c;omega
      rw [a1,a2]
      clear a1 a2 w1 i1 i2 e1 e2 f1 f2 hU hD
      by_cases hr2:r + d1 < 18446744073709551616
      · refine Ev.pos (by omega) ?_
        rw [Nat.mod_eq_of_lt hr2]
        exact hA hr2
      · refine Ev.neg (by omega) (Ev.const ?_)
        rw [hB (by omega)]
    clear w1 i1 i2 e1 e2 f1 f2 hU hD hA hB
    refine Ev.neg (by omega) ?_
    by_cases b:q * d2 / 18446744073709551616=r
    · refine Ev.pos (by omega) ?_
      rw [decide_eq_false (by omega)]
      exact j
    · exact Ev.neg (by omega) j
  clear i1 i2 f1 f2 e1 e2
  induction n with
  | zero =>
    intro q r h hq hqb hr
    have ht:q * d2≤r * 18446744073709551616 + n3:=by
      refine Classical.byContradiction fun ht=>?_
      have:=guess_more t n3 d1 d2 q r U D P h ht hU hD
      have h3:=(Nat.div_lt_iff_lt_mul hD0).2 this
      rw [← hq] at h3
      exact Nat.lt_irrefl _ h3
    exact ⟨q,by rw [← hq];exact Nat.le_refl _,Nat.le_refl _,stop q r hqb hr ht⟩
  | succ n ih =>
    intro q r h hq hqb hr
    have hpos:0 < q:=by rw [← hq];exact Nat.succ_pos _
    by_cases ht:q * d2≤r * 18446744073709551616 + n3
    · exact ⟨q,by rw [← hq];exact Nat.le_add_right _ _,Nat.le_refl _,stop q r hqb hr ht⟩
    · have hs:(q - 1) * d1 + (r + d1)=t:=by
        obtain ⟨q,rfl⟩ : ∃ p,q=p + 1:=⟨q - 1,by clear h hq ht;omega⟩
        rw [Nat.add_sub_cancel,← h,Nat.add_mul]
        omega
      have hq1:U / D + n=q - 1:=by rw [← hq];rfl
      by_cases hr2:r + d1 < 18446744073709551616
      · obtain ⟨g,g1,g2,g3⟩:=ih (q - 1) (r + d1) hs hq1 (Nat.lt_of_le_of_lt (Nat.sub_le _ _) hqb) hr2
        exact ⟨g,g1,Nat.le_trans g2 (Nat.sub_le _ _),goon q r hpos hqb hr ht g (fun _=>g3) (fun h2=>absurd hr2 (by omega))⟩
      · exact ⟨q - 1,by rw [← hq1];exact Nat.le_add_right _ _,Nat.sub_le _ _,goon q r hpos hqb hr ht (q - 1) (fun h2=>absurd h2 hr2) (fun _=>rfl)⟩
theorem three_high (u:List Int) (hu:wfW u) (n:Nat) (hn:u.length=n + 3) : ∃ R a b c:Nat,u.getD n 0=(a:Int)∧u.getD (n + 1) 0=(b:Int)∧u.getD (n + 2) 0=(c:Int)∧a < 18446744073709551616∧b < 18446744073709551616∧c < 18446744073709551616∧R < 18446744073709551616 ^ n ∧
    (vW u).toNat=R + ((c * 18446744073709551616 + b) * 18446744073709551616 + a) * 18446744073709551616 ^ n∧((vW u).toNat:Int)=vW u:=by
  have g:=fun i=>wf_getD W_pos hu i
  simp only [W_int] at g
  obtain ⟨a,ha⟩:=Int.eq_ofNat_of_zero_le (g n).1
  obtain ⟨b,hb⟩:=Int.eq_ofNat_of_zero_le (g (n + 1)).1
  obtain ⟨c,hc⟩:=Int.eq_ofNat_of_zero_le (g (n + 2)).1
  have wa:=(g n).2
  have wb:=(g (n + 1)).2
  have wc:=(g (n + 2)).2
  rw [ha] at wa
  rw [hb] at wb
  rw [hc] at wc
  have hR0:=vl_nonneg W_pos (wf_take hu n)
  have hR1:=vl_lt W_pos (wf_take hu n)
  rw [List.length_take,Nat.min_eq_left (by omega)] at hR1
  obtain ⟨R,hR⟩:=Int.eq_ofNat_of_zero_le hR0
  rw [hR] at hR1
  have hP:((W:Nat):Int) ^ n=((18446744073709551616 ^ n:Nat):Int):=by rw [Int.natCast_pow]
  have e1:=vl_take_succ ((W:Nat):Int) u n
  have e2:=vl_take_succ ((W:Nat):Int) u (n + 1)
  have e3:=vl_take_succ ((W:Nat):Int) u (n + 2)
  rw [vl_take_ge _ u (n + 2 + 1) (by omega),hc,Int.pow_succ,Int.pow_succ] at e3
  rw [hb,Int.pow_succ] at e2
  rw [ha,hR] at e1
  rw [hP,W_int] at e1 e2 e3
  rw [hP] at hR1
  generalize (18446744073709551616 ^ n:Nat)=P at *
  have e4:vl ((W:Nat):Int) u=((R + ((c * 18446744073709551616 + b) * 18446744073709551616 + a) * P:Nat):Int):=by
    rw [W_int,e3,e2,e1,Int.natCast_add,Int.natCast_mul,Int.natCast_add,Int.natCast_mul,Int.natCast_add,Int.natCast_mul]
    show _=(R:Int) + (((c:Int) * 18446744073709551616 + (b:Int)) * 18446744073709551616 + (a:Int)) * (P:Int)
    grind
  refine ⟨R,a,b,c,ha,hb,hc,Int.ofNat_lt.1 wa,Int.ofNat_lt.1 wb,Int.ofNat_lt.1 wc,Int.ofNat_lt.1 hR1,?_,?_⟩
  · show (vl _ _).toNat=_
    rw [e4,Int.toNat_natCast]
  · show ((vl _ _).toNat:Int)=vl _ _
    rw [e4,Int.toNat_natCast]
theorem vnat {l:List Int} (h:wfW l):((vW l).toNat:Int)=vW l:=Int.toNat_of_nonneg (vl_nonneg W_pos h)
theorem vlt {l:List Int} (h:wfW l):(vW l).toNat < 18446744073709551616 ^ l.length:=by
  have h1:=vl_lt W_pos h
  have h2:=vnat h
  have hP:((W:Nat):Int) ^ l.length=((18446744073709551616 ^ l.length:Nat):Int):=by rw [Int.natCast_pow]
  rw [hP] at h1
  simp only [vW] at h2
  rw [← h2] at h1
  exact Int.ofNat_lt.1 h1
theorem two_high (d:List Int) (hd:wfW d) (n:Nat) (hn:d.length=n + 2) : ∃ R a b:Nat,d.getD n 0=(a:Int)∧d.getD (n + 1) 0=(b:Int)∧a < 18446744073709551616∧b < 18446744073709551616∧R < 18446744073709551616 ^ n ∧
    (vW d).toNat=R + (b * 18446744073709551616 + a) * 18446744073709551616 ^ n:=by
  obtain ⟨R,a,b,c,ha,hb,hc,wa,wb,wc,hR,hv,_⟩:=three_high (d ++ [0]) (wf_append hd (fun x hx=>by rw [List.mem_singleton.1 hx];exact ⟨Int.le_refl 0,W_pos⟩)) n (by simp [hn])
  have g : ∀ i,i < d.length→(d ++ [0]).getD i 0=d.getD i 0:=fun i hi=>by
    rw [List.getD_eq_getElem?_getD,List.getElem?_append_left hi,← List.getD_eq_getElem?_getD]
  have hc0:c=0:=by
    have:(d ++ [0]).getD (n + 2) 0=0:=by
      rw [List.getD_eq_getElem?_getD,List.getElem?_append_right (by omega),show n + 2 - d.length=0 by omega]
      rfl
    rw [this] at hc
    omega
  have hv0:vW (d ++ [0])=vW d:=by
    show vl _ _=vl _ _
    rw [vl_append]
    simp [vl]
  rw [g n (by omega)] at ha
  rw [g (n + 1) (by omega)] at hb
  rw [hv0,hc0,Nat.zero_mul,Nat.zero_add] at hv
  exact ⟨R,a,b,ha,hb,wa,wb,hR,hv⟩
theorem guess_ev (u d:List Int) (hu:wfW u) (hd:wfW d) (n:Nat) (hn:d.length=n + 2) (hun:u.length=n + 3) (hm:d.length < 4611686018427387904) (htop:0 < d.getD (n + 1) 0) (hlt:(vW u).toNat < (vW d).toNat * 18446744073709551616) :
    ∃ g:Nat,(vW u).toNat / (vW d).toNat≤g∧g < 18446744073709551616∧Ev (fun k=>quot_guess.f k u d) (g:Int):=by
  obtain ⟨R,a,b,c,ha,hb,hc,wa,wb,wc,hR,hv,_⟩:=three_high u hu n hun
  obtain ⟨S,a2,d1,ha2,hd1,wa2,wd1,hS,hvd⟩:=two_high d hd n hn
  have d1p:0 < d1:=by rw [hd1] at htop;omega
  have hP:0 < 18446744073709551616 ^ n:=Nat.pow_pos (by decide)
  generalize hU:(vW u).toNat=U at *
  generalize hD:(vW d).toNat=D at *
  generalize (18446744073709551616 ^ n:Nat)=P at *
  have hU1:U < ((c * 18446744073709551616 + b) * 18446744073709551616 + a + 1) * P:=by
    rw [hv,Nat.add_mul ((c * 18446744073709551616 + b) * 18446744073709551616 + a) 1 P]
    omega
  have hD1:(d1 * 18446744073709551616 + a2) * P≤D:=by rw [hvd];omega
  have hD0:0 < D:=by
    have:1 * P≤(d1 * 18446744073709551616 + a2) * P:=Nat.mul_le_mul_right _ (by omega)
    omega
  have hq:U / D < 18446744073709551616:=by
    refine (Nat.div_lt_iff_lt_mul hD0).2 ?_
    rw [Nat.mul_comm]
    exact hlt
  clear hU hD hv hvd hlt
  have j1:wrap64 ((d.length:Int) - 1)=((n + 1:Nat):Int):=by rw [wrap_id (by omega)];omega
  have j2:wrap64 ((d.length:Int) - 2)=((n:Nat):Int):=by clear j1;rw [wrap_id (by omega)];omega
  have l1:((d.length:Nat):Int)=((n + 2:Nat):Int):=by clear j1 j2;omega
  have g1:((n + 2:Nat):Int) < (u.length:Int):=by clear j1 j2 l1;omega
  have g2:((n + 1:Nat):Int) < (u.length:Int):=by clear j1 j2 l1;omega
  have g3:((n:Nat):Int) < (u.length:Int):=by clear j1 j2 l1;omega
  have g4:((n + 1:Nat):Int) < ((n + 2:Nat):Int):=by clear j1 j2 l1;omega
  have g0 : ∀ q:Nat,(0:Int)≤(q:Int):=fun q=>Int.natCast_nonneg q
  rw [l1] at j1 j2
  have key : ∀ g:Nat,(18446744073709551616≤c + (18446744073709551616 - d1)→g=18446744073709551615)→(c < d1→Ev (fun k=>quot_guess.l0 k d ((n + 2:Nat):Int) (a:Int) (((c * 18446744073709551616 + b) / d1:Nat):Int) (((c * 18446744073709551616 + b) % d1:Nat):Int)) (g:Int))→Ev (fun k=>quot_guess.f k u d) (g:Int):=by
    intro g hA hB
    unfold quot_guess.f
    simp only [j1,j2,l1,rd_nat,ha,hb,hc,hd1]
    refine Ev.pos (g0 _) (Ev.pos g1 (Ev.pos (g0 _) (Ev.pos g2 (Ev.pos (g0 _) (Ev.pos g3 (Ev.pos g4 ?_))))))
    clear j1 j2 l1 ha hb hc hd1 ha2
    by_cases h:c < d1
    · refine Ev.neg (by omega) ?_
      refine Ev.bind (div64_ev c b d1 h wd1 wb) ?_
      exact hB h
    · refine Ev.pos (by omega) (Ev.const ?_)
      rw [hA (by omega)]
      rfl
  by_cases h:c < d1
  · have hq0:(c * 18446744073709551616 + b) / d1 < 18446744073709551616:=by
      refine (Nat.div_lt_iff_lt_mul d1p).2 ?_
      have:(c + 1) * 18446744073709551616≤d1 * 18446744073709551616:=Nat.mul_le_mul_right _ h
      omega
    have hr0:=Nat.mod_lt (c * 18446744073709551616 + b) d1p
    have hdm:=Nat.div_add_mod (c * 18446744073709551616 + b) d1
    rw [Nat.mul_comm] at hdm
    have hfirst:=guess_first (c * 18446744073709551616 + b) a d1 a2 U D P d1p hU1 wa hD1 hP
    have e1':d.getD (d.length - 1) 0=(d1:Int):=by rw [show d.length - 1=n + 1 by clear j1 j2 l1;omega];exact hd1
    have e2':d.getD (d.length - 2) 0=(a2:Int):=by rw [show d.length - 2=n by clear j1 j2 l1;omega];exact ha2
    obtain ⟨g,k1,k2,k3⟩:=guess_l0 d hd (by clear j1 j2 l1;omega) hm d1 a2 a U D P (c * 18446744073709551616 + b) e1' e2' wd1 wa2 wa hU1 hD1 hD0 ((c * 18446744073709551616 + b) / d1 - U / D) ((c * 18446744073709551616 + b) / d1) ((c * 18446744073709551616 + b) % d1) hdm (Nat.add_sub_cancel' hfirst) hq0 (Nat.lt_trans hr0 wd1)
    rw [l1] at k3
    exact ⟨g,k1,Nat.lt_of_le_of_lt k2 hq0,key g (fun h2=>by clear j1 j2 l1;omega) (fun _=>k3)⟩
  · exact ⟨18446744073709551615,Nat.le_of_lt_succ hq,by decide,key _ (fun _=>rfl) (fun h2=>absurd h2 h)⟩
end Go.Proofs.YtakidmbnkkhojaaGreatM
end

section
namespace Go.Proofs.YtakidmbnkkhojaaGreatM
open Go.RowKit Go.Proofs.YtakidmbnkkhojaaGreatW.PrintWords Go.Proofs.YtakidmbnkkhojaaGreatW.PrintLast Go.Proofs.YtakidmbnkkhojaaGreatW.PrintMore Go.Proofs.YtakidmbnkkhojaaGreatX Go.Proofs.YtakidmbnkkhojaaGreat.F
set_option linter.unusedVariables false
set_option linter.unusedSimpArgs false
theorem Ev.map {α β:Type} {g:Nat→Option α} {a:α} (f:α→β) (h:Ev g a):Ev (fun n=>(g n).map f) (f a):=by
  obtain ⟨K,hK⟩:=h
  exact ⟨K,fun k hk=>by show (g k).map f=_;rw [hK k hk];rfl⟩
theorem three (A p C:List Int):((A ++ p ++ C).take (A.length + p.length)).drop A.length=p∧(A ++ p ++ C).take A.length=A∧(A ++ p ++ C).drop (A.length + p.length)=C:=by
  have h:(A ++ p ++ C).take (A.length + p.length)=A ++ p:=List.take_left' (by simp)
  refine ⟨?_,?_,?_⟩
  · rw [h]
    exact List.drop_left' rfl
  · rw [List.append_assoc]
    exact List.take_left' rfl
  · exact List.drop_left' (by simp)
theorem three_at (A p C:List Int) (j:Nat) (hj:j < p.length):(A ++ p ++ C).getD (A.length + j) 0=p.getD j 0:=by
  rw [List.getD_eq_getElem?_getD,List.getD_eq_getElem?_getD,List.append_assoc,List.getElem?_append_right (by omega),Nat.add_sub_cancel_left,List.getElem?_append_left hj]
section
variable {A p C d : List Int} {i : Nat}
theorem guessW_ev (hi:A.length=i) (hp:p.length=d.length + 1) {g:Nat} (h:Ev (fun k=>quot_guess.f k p d) (g:Int)):Ev (fun k=>quot_guessW.f k (A ++ p ++ C) (i:Int) ((i + d.length + 1:Nat):Int) d) (g:Int):=by
  unfold quot_guessW.f
  obtain ⟨e1,e2,e3⟩:=three A p C
  refine Ev.pos (by simp only [List.length_append];omega) ?_
  rw [Int.toNat_natCast,Int.toNat_natCast,show i + d.length + 1=A.length + p.length by omega,← hi,e1]
  exact h
theorem lessW_ev (hi:A.length=i) (hp:p.length=d.length + 1) {q b:Int} {p':List Int} (h:Ev (fun k=>quot_less.f k p d q) (b,p')):Ev (fun k=>quot_lessW.f k (A ++ p ++ C) (i:Int) ((i + d.length + 1:Nat):Int) d q) (b,A ++ p' ++ C):=by
  unfold quot_lessW.f
  obtain ⟨e1,e2,e3⟩:=three A p C
  refine Ev.pos (by simp only [List.length_append];omega) ?_
  rw [Int.toNat_natCast,Int.toNat_natCast,show i + d.length + 1=A.length + p.length by omega,← hi,e1,e2,e3]
  exact Ev.map (fun r_:Int×List Int=>(r_.1,A ++ r_.2 ++ C)) h
theorem backW_ev (hi:A.length=i) (hp:p.length=d.length + 1) {p':List Int} (h:Ev (fun k=>quot_back.f k p d) p'):Ev (fun k=>quot_backW.f k (A ++ p ++ C) (i:Int) ((i + d.length + 1:Nat):Int) d) (A ++ p' ++ C):=by
  unfold quot_backW.f
  obtain ⟨e1,e2,e3⟩:=three A p C
  refine Ev.pos (by simp only [List.length_append];omega) ?_
  rw [Int.toNat_natCast,Int.toNat_natCast,show i + d.length + 1=A.length + p.length by omega,← hi,e1,e2,e3]
  exact Ev.map (fun r_:List Int=>A ++ r_ ++ C) h
end
theorem top_zero {p:List Int} (hp:wfW p) (n:Nat) (hn:p.length=n + 1):((vW p).toNat < 18446744073709551616 ^ n→p.getD n 0=0)∧(18446744073709551616 ^ n≤(vW p).toNat→p.getD n 0≠0):=by
  have w:=wf_getD W_pos hp n
  rw [W_int] at w
  obtain ⟨t,ht⟩:=Int.eq_ofNat_of_zero_le w.1
  have h1:=vl_nonneg W_pos (wf_take hp n)
  have h2:=vl_lt W_pos (wf_take hp n)
  rw [List.length_take,Nat.min_eq_left (by omega)] at h2
  obtain ⟨R,hR⟩:=Int.eq_ofNat_of_zero_le h1
  rw [hR] at h2
  have hP:((W:Nat):Int) ^ n=((18446744073709551616 ^ n:Nat):Int):=by rw [Int.natCast_pow]
  have e:=vl_take_succ ((W:Nat):Int) p n
  rw [vl_take_ge _ p (n + 1) (by omega),ht,hR,hP,← Int.natCast_mul,← Int.natCast_add] at e
  rw [hP] at h2
  have h3:R < 18446744073709551616 ^ n:=Int.ofNat_lt.1 h2
  have hv:(vW p).toNat=R + 18446744073709551616 ^ n * t:=by
    show (vl _ _).toNat=_
    rw [e,Int.toNat_natCast]
  rw [hv,ht]
  clear hP e hR h1 h2 ht w hv
  generalize (18446744073709551616 ^ n:Nat)=P at *
  constructor
  · intro h
    rcases Nat.eq_zero_or_pos t with h0|h0
    · rw [h0];rfl
    · have:P * 1≤P * t:=Nat.mul_le_mul_left _ h0
      omega
  · intro h h0
    have:t=0:=by omega
    rw [this,Nat.mul_zero] at h
    omega
theorem long_l1 (A C d qrow:List Int) (s:Int) (i Up qs:Nat) (hd:wfW d) (hi:A.length=i) (hm:i + d.length + 1 < 4611686018427387904) (hC:C.length < 4611686018427387904) (hqs:qs=Up / (vW d).toNat) (hD0:0 < (vW d).toNat) (hq:i < qrow.length) {R:List Int×List Int}
    (fin : ∀ p',wfW p'→p'.length=d.length + 1→(vW p').toNat=Up % (vW d).toNat→Ev (fun k=>quot_long.l0 k (A ++ p' ++ C) d s (qrow.set i (qs:Int)) ((i:Int) - 1)) R) (e:Nat) :
    ∀ (p:List Int) (k' b:Nat),wfW p→p.length=d.length + 1→k'=qs + e→k' < 18446744073709551616→b=(if e=0 then 0 else 1)→(vW p).toNat + k' * (vW d).toNat=Up + b * 18446744073709551616 ^ (d.length + 1) →
      Ev (fun k=>quot_long.l1 k (A ++ p ++ C) d s qrow (i:Int) (k':Int) (b:Int)) R:=by
  have i1:wrap64 ((i:Int) - 1)=(i:Int) - 1:=wrap_id (by omega)
  have i2:wrap64 ((i:Int) + (d.length:Int))=((i + d.length:Nat):Int):=by clear i1;rw [wrap_id (by omega)];omega
  have i3:wrap64 (((i + d.length:Nat):Int) + 1)=((i + d.length + 1:Nat):Int):=by clear i1 i2;rw [wrap_id (by omega)];omega
  have i4:(d.length:Int) + (i:Int)=((i + d.length:Nat):Int):=by clear i1 i2 i3;omega
  have f1:(i:Int) < (qrow.length:Int):=by clear i1 i2 i3 i4;omega
  have f2:(d.length:Int) < ((i + d.length + 1:Nat):Int) - (i:Int):=by clear i1 i2 i3 i4;omega
  have f0 : ∀ q:Nat,(0:Int)≤(q:Int):=fun q=>Int.natCast_nonneg q
  have hdm:=Nat.div_add_mod Up (vW d).toNat
  have hrm:=Nat.mod_lt Up hD0
  have hDlt:=vlt hd
  rw [← hqs] at hdm
  induction e with
  | zero =>
    intro p k' b hp hpl hk hkb hb hv
    rw [if_pos rfl] at hb
    subst hb
    have hk2:k'=qs:=hk
    subst hk2
    refine Ev.unroll ?_
    simp only [quot_long.l1,i1,Int.toNat_natCast]
    refine Ev.pos rfl (Ev.pos (f0 _) (Ev.pos f1 ?_))
    refine fin p hp hpl ?_
    clear i1 i2 i3 i4 f1 f2
    rw [Nat.mul_comm] at hdm
    omega
  | succ e ih =>
    intro p k' b hp hpl hk hkb hb hv
    rw [if_neg (Nat.succ_ne_zero e)] at hb
    subst hb
    obtain ⟨p',c,hp',hpl',hc,hv',hev⟩:=back_ev p d hp hd (by omega) (by clear i1 i2 i3 i4;omega)
    have hB:=backW_ev (C:=C) hi hpl hev
    have f3:((i + d.length:Nat):Int) < ((A ++ p ++ C).length:Int):=by clear i1 i2 i3 i4 hv hv';simp only [List.length_append];omega
    have hP:((W:Nat):Int) ^ p.length=((18446744073709551616 ^ (d.length + 1):Nat):Int):=by rw [hpl,Int.natCast_pow]
    have hvN:(vW p').toNat + c * 18446744073709551616 ^ (d.length + 1)=(vW p).toNat + (vW d).toNat:=by
      rw [hP,← vnat hp',← vnat hp,← vnat hd,← Int.natCast_mul,← Int.natCast_add,← Int.natCast_add] at hv'
      exact Int.ofNat.inj hv'
    have hlt':=vlt hp'
    rw [hpl'] at hlt'
    rw [hpl] at hlt'
    have hPP:18446744073709551616 ^ (d.length + 1)=18446744073709551616 ^ d.length * 18446744073709551616:=Nat.pow_succ ..
    obtain ⟨t1,t2⟩:=top_zero hp' d.length (by rw [hpl',hpl])
    have hat:(A ++ p' ++ C).getD (i + d.length) 0=p'.getD d.length 0:=by rw [← hi];exact three_at A p' C d.length (by rw [hpl',hpl];exact Nat.lt_succ_self _)
    have hpl2:p'.length=d.length + 1:=by rw [hpl',hpl]
    have hk1:k' - 1=qs + e:=by rw [hk];rfl
    have hk0:0 < k':=by rw [hk];exact Nat.succ_pos _
    have hkm:k' * (vW d).toNat=(k' - 1) * (vW d).toNat + (vW d).toNat:=by
      obtain ⟨z,rfl⟩ : ∃ z,k'=z + 1:=⟨k' - 1,(Nat.succ_pred_eq_of_pos hk0).symm⟩
      rw [Nat.add_mul,Nat.one_mul,Nat.add_sub_cancel]
    have hw:=wrap_dec hk0 hkb
    have hk1b:k' - 1 < 18446744073709551616:=Nat.lt_of_le_of_lt (Nat.sub_le _ _) hkb
    refine Ev.unroll ?_
    simp only [quot_long.l1,i2,i3,i4,hw]
    refine Ev.neg (by decide) ?_
    refine Ev.bind hB ?_
    simp only [rd_nat,hat]
    refine Ev.pos (f0 _) (Ev.pos (f0 _) (Ev.pos f2 (Ev.pos (f0 _) (Ev.pos f3 ?_))))
    clear i1 i2 i3 i4 f1 f2 f3 hB hev hw hat hP hv'
    have hsplit:(k' - 1) * (vW d).toNat=qs * (vW d).toNat + e * (vW d).toNat:=by rw [hk1,Nat.add_mul]
    rw [Nat.mul_comm] at hdm
    by_cases he:e=0
    ·
      have he0:e * (vW d).toNat=0:=by rw [he,Nat.zero_mul]
      have hz:(vW p').toNat < 18446744073709551616 ^ d.length∧c=1:=by
        rw [Nat.one_mul] at hv
        generalize e * (vW d).toNat=E at *
        generalize qs * (vW d).toNat=Q at *
        generalize (k' - 1) * (vW d).toNat=K1 at *
        generalize k' * (vW d).toNat=K at *
        generalize (18446744073709551616 ^ (d.length + 1):Nat)=PP at *
        generalize (18446744073709551616 ^ d.length:Nat)=P at *
        rcases Nat.le_one_iff_eq_zero_or_eq_one.1 hc with h|h
        · rw [h,Nat.zero_mul] at hvN
          omega
        · rw [h,Nat.one_mul] at hvN
          exact ⟨by omega,h⟩
      refine Ev.pos (t1 hz.1) ?_
      have:=ih p' (k' - 1) 0 hp' hpl2 hk1 hk1b (by rw [if_pos he]) (by
        have h:=hz.2
        rw [h,Nat.one_mul] at hvN
        omega)
      exact this
    · have he1:1≤e:=Nat.one_le_iff_ne_zero.2 he
      have hbig:18446744073709551616 ^ d.length≤(vW p').toNat∧c=0:=by
        have h1:e * (vW d).toNat≤18446744073709551615 * (vW d).toNat:=Nat.mul_le_mul_right _ (by omega)
        have h2:1 * (vW d).toNat≤e * (vW d).toNat:=Nat.mul_le_mul_right _ he1
        have h3:18446744073709551615 * (vW d).toNat + 18446744073709551615≤18446744073709551615 * 18446744073709551616 ^ d.length:=by
          have:=Nat.mul_le_mul_left 18446744073709551615 hDlt
          omega
        rw [Nat.one_mul] at hv
        generalize e * (vW d).toNat=E at *
        generalize qs * (vW d).toNat=Q at *
        generalize (k' - 1) * (vW d).toNat=K1 at *
        generalize k' * (vW d).toNat=K at *
        generalize (18446744073709551616 ^ (d.length + 1):Nat)=PP at *
        generalize (18446744073709551616 ^ d.length:Nat)=P at *
        rcases Nat.le_one_iff_eq_zero_or_eq_one.1 hc with h|h
        · rw [h,Nat.zero_mul] at hvN
          exact ⟨by omega,h⟩
        · rw [h,Nat.one_mul] at hvN
          omega
      refine Ev.neg (t2 hbig.1) ?_
      have:=ih p' (k' - 1) 1 hp' hpl2 hk1 hk1b (by rw [if_neg he]) (by
        have h:=hbig.2
        rw [h,Nat.zero_mul] at hvN
        omega)
      exact this
end Go.Proofs.YtakidmbnkkhojaaGreatM
end

section
namespace Go.Proofs.YtakidmbnkkhojaaGreatM
open Go.RowKit Go.Proofs.YtakidmbnkkhojaaGreatW.PrintWords Go.Proofs.YtakidmbnkkhojaaGreatW.PrintLast Go.Proofs.YtakidmbnkkhojaaGreatW.PrintMore Go.Proofs.YtakidmbnkkhojaaGreatX Go.Proofs.YtakidmbnkkhojaaGreat.F
set_option linter.unusedVariables false
set_option linter.unusedSimpArgs false
theorem vN_append {a b:List Int} (ha:wfW a) (hb:wfW b):(vW (a ++ b)).toNat=(vW a).toNat + 18446744073709551616 ^ a.length * (vW b).toNat:=by
  have h:=vl_append ((W:Nat):Int) a b
  have hP:((W:Nat):Int) ^ a.length=((18446744073709551616 ^ a.length:Nat):Int):=by rw [Int.natCast_pow]
  have h1:=vnat ha
  have h2:=vnat hb
  simp only [vW] at h1 h2 ⊢
  rw [hP,← h1,← h2,← Int.natCast_mul,← Int.natCast_add] at h
  rw [h,Int.toNat_natCast]
theorem vN_set {l:List Int} (h:wfW l) (i x:Nat) (hi:i < l.length) (hz:l.getD i 0=0):(vW (l.set i (x:Int))).toNat=(vW l).toNat + 18446744073709551616 ^ i * x:=by
  have e:=vl_set ((W:Nat):Int) l i (x:Int) hi
  have hP:((W:Nat):Int) ^ i=((18446744073709551616 ^ i:Nat):Int):=by rw [Int.natCast_pow]
  have h1:=vnat h
  simp only [vW] at h1 ⊢
  rw [hz,Int.sub_zero,hP,← h1,← Int.natCast_mul,← Int.natCast_add] at e
  rw [e,Int.toNat_natCast]
theorem vN_drop {l:List Int} (h:wfW l) (i:Nat) (hi:i < l.length) : ∃ x:Nat,x < 18446744073709551616∧(vW (l.drop i)).toNat=x + 18446744073709551616 * (vW (l.drop (i + 1))).toNat:=by
  have w:=wf_getD W_pos h i
  rw [W_int] at w
  obtain ⟨x,hx⟩:=Int.eq_ofNat_of_zero_le w.1
  rw [hx] at w
  have e:=vl_drop ((W:Nat):Int) l i hi
  have h1:=vnat (wf_drop h (i + 1))
  refine ⟨x,Int.ofNat_lt.1 w.2,?_⟩
  simp only [vW] at h1 ⊢
  rw [hx,← h1,← Int.natCast_mul,← Int.natCast_add] at e
  rw [e,Int.toNat_natCast]
theorem vl_inj {B:Int} (hB:0 < B) : ∀ {a b:List Int},wf B a→wf B b→a.length=b.length→vl B a=vl B b→a=b
  | [],[],_,_,_,_=>rfl
  | [],_ :: _,_,_,h,_=>by simp at h
  | _ :: _,[],_,_,h,_=>by simp at h
  | x :: a,y :: b,ha,hb,hl,hv=>by
    have h1:=wf_cons.1 ha
    have h2:=wf_cons.1 hb
    have hv':x + B * vl B a=y + B * vl B b:=hv
    have e1:(x + B * vl B a) % B=x:=by rw [Int.add_mul_emod_self_left];exact Int.emod_eq_of_lt h1.1.1 h1.1.2
    have e2:(y + B * vl B b) % B=y:=by rw [Int.add_mul_emod_self_left];exact Int.emod_eq_of_lt h2.1.1 h2.1.2
    have hx:x=y:=by rw [← e1,← e2,hv']
    subst hx
    have hr:B * vl B a=B * vl B b:=by omega
    have hvv:=Int.eq_of_mul_eq_mul_left (Int.ne_of_gt hB) hr
    rw [vl_inj hB h1.2 h2.2 (by simpa using hl) hvv]
theorem row_inj {a b:List Int} (ha:wfW a) (hb:wfW b) (hl:a.length=b.length) (hv:(vW a).toNat=(vW b).toNat):a=b:=by
  refine vl_inj W_pos ha hb hl ?_
  have h1:=vnat ha
  have h2:=vnat hb
  simp only [vW] at h1 h2 hv
  rw [← h1,← h2,hv]
theorem row_of (v n:Nat) (h:v < 18446744073709551616 ^ n) : ∃ p:List Int,wfW p∧p.length=n∧(vW p).toNat=v:=by
  have hl:(lim v).length≤n:=lim_len_le h
  have wr:wfW (List.replicate (n - (lim v).length) (0:Int)):=wf_replicate W_pos _
  refine ⟨lim v ++ List.replicate (n - (lim v).length) 0,wf_append (lim_wf v) wr,by simp;omega,?_⟩
  rw [vN_append (lim_wf v) wr,lim_v,Int.toNat_natCast,show vW (List.replicate (n - (lim v).length) (0:Int))=0 from vl_replicate _ _]
  rfl
theorem long_l0 (d:List Int) (hd:wfW d) (n:Nat) (hn:d.length=n + 2) (htop:0 < d.getD (n + 1) 0) (hD0:0 < (vW d).toNat) (s:Int) (L:Nat) (hL:L < 4611686018427387904) (U0:Nat) : ∀ i:Nat,i + d.length≤L→∀ u q:List Int,wfW u→u.length=L→wfW q→q.length + d.length=L→(vW (u.drop i)).toNat < (vW d).toNat→(∀ j,j < i→q.getD j 0=0)→U0=(vW u).toNat + (vW d).toNat * (vW q).toNat →
    ∃ u' q':List Int,wfW u'∧u'.length=L∧wfW q'∧q'.length=q.length∧(vW u').toNat=U0 % (vW d).toNat∧(vW q').toNat=U0 / (vW d).toNat ∧
      ∀ R,Ev (fun k=>quot_long.l0 k u' d s q' (-1)) R→Ev (fun k=>quot_long.l0 k u d s q ((i:Int) - 1)) R:=by
  intro i
  induction i with
  | zero =>
    intro hi u q hu hul hq hql hlt hz hU
    rw [List.drop_zero] at hlt
    refine ⟨u,q,hu,hul,hq,rfl,?_,?_,fun R h=>h⟩
    · rw [hU,Nat.add_mul_mod_self_left,Nat.mod_eq_of_lt hlt]
    · rw [hU,Nat.add_mul_div_left _ _ hD0,Nat.div_eq_of_lt hlt,Nat.zero_add]
  | succ i ih =>
    intro hi u q hu hul hq hql hlt hz hU
    have hiu:i < u.length:=by omega
    have hiq:i < q.length:=by omega
    have hA:(u.take i).length=i:=by rw [List.length_take];omega
    have hpl:((u.drop i).take (d.length + 1)).length=d.length + 1:=by rw [List.length_take,List.length_drop];omega
    have hsplit:u.take i ++ (u.drop i).take (d.length + 1) ++ (u.drop i).drop (d.length + 1)=u:=by rw [List.append_assoc,List.take_append_drop,List.take_append_drop]
    have wA:wfW (u.take i):=wf_take hu i
    have wp:wfW ((u.drop i).take (d.length + 1)):=wf_take (wf_drop hu i) _
    have wC:wfW ((u.drop i).drop (d.length + 1)):=wf_drop (wf_drop hu i) _
    have hCl:((u.drop i).drop (d.length + 1)).length < 4611686018427387904:=by rw [List.length_drop,List.length_drop];omega
    obtain ⟨x,hx,hdr⟩:=vN_drop hu i hiu
    have hdr2:=vN_append wp wC
    rw [List.take_append_drop,hpl] at hdr2
    have hDlt:=vlt hd
    have hPP:18446744073709551616 ^ (d.length + 1)=18446744073709551616 ^ d.length * 18446744073709551616:=Nat.pow_succ ..
    have hwin:(vW (u.drop i)).toNat < (vW d).toNat * 18446744073709551616:=by omega
    have hC0:(vW ((u.drop i).drop (d.length + 1))).toNat=0:=by
      refine Classical.byContradiction fun h=>?_
      have h1:18446744073709551616 ^ (d.length + 1) * 1≤18446744073709551616 ^ (d.length + 1) * (vW ((u.drop i).drop (d.length + 1))).toNat:=Nat.mul_le_mul_left _ (Nat.one_le_iff_ne_zero.2 h)
      have h2:(vW d).toNat * 18446744073709551616≤18446744073709551616 ^ d.length * 18446744073709551616:=Nat.mul_le_mul_right _ (Nat.le_of_lt hDlt)
      clear hsplit hiu hiq hA hpl
      omega
    rw [hC0,Nat.mul_zero,Nat.add_zero] at hdr2
    have hval : ∀ p':List Int,wfW p'→(vW (u.take i ++ p' ++ (u.drop i).drop (d.length + 1))).toNat=(vW (u.take i)).toNat + 18446744073709551616 ^ i * (vW p').toNat:=by
      intro p' hp'
      rw [List.append_assoc,vN_append wA (wf_append hp' wC),vN_append hp' wC,hC0,Nat.mul_zero,Nat.add_zero,hA]
    have hu0:=hval _ wp
    rw [hsplit] at hu0
    generalize hAg:u.take i=A at *
    generalize hpg:(u.drop i).take (d.length + 1)=p at *
    generalize hCg:(u.drop i).drop (d.length + 1)=C at *
    rw [hdr2] at hwin
    generalize hUp:(vW p).toNat=Up at *
    have hdm:=Nat.div_add_mod Up (vW d).toNat
    have hrm:=Nat.mod_lt Up hD0
    obtain ⟨g,g1,g2,g3⟩:=guess_ev p d wp hd n hn (by omega) (by omega) htop (by rw [hUp];exact hwin)
    rw [hUp] at g1
    obtain ⟨p1,b,wp1,hp1l,hb1,hv1,hev1⟩:=less_ev p d wp hd g g2 hpl (by omega)
    have hP:((W:Nat):Int) ^ p.length=((18446744073709551616 ^ (d.length + 1):Nat):Int):=by rw [hpl,Int.natCast_pow]
    have hv1N:(vW p1).toNat + g * (vW d).toNat=Up + b * 18446744073709551616 ^ (d.length + 1):=by
      rw [hP,← vnat wp1,← vnat wp,← vnat hd,← Int.natCast_mul,← Int.natCast_mul,← Int.natCast_add,← Int.natCast_add,hUp] at hv1
      exact Int.ofNat.inj hv1
    have hp1lt:=vlt wp1
    rw [hp1l,hpl] at hp1lt
    have hqslt:Up / (vW d).toNat < 18446744073709551616:=(Nat.div_lt_iff_lt_mul hD0).2 (by rw [Nat.mul_comm];exact hwin)
    have hqsb:(0:Int)≤((Up / (vW d).toNat:Nat):Int)∧((Up / (vW d).toNat:Nat):Int) < ((W:Nat):Int):=⟨Int.natCast_nonneg _,cast_lt hqslt⟩
    have hbe:b=(if g - Up / (vW d).toNat=0 then 0 else 1):=by
      clear hP hv1 hev1 g3
      rw [Nat.mul_comm] at hdm
      by_cases h:g - Up / (vW d).toNat=0
      · rw [if_pos h]
        have hg:g=Up / (vW d).toNat:=by omega
        rw [hg] at hv1N
        generalize Up / (vW d).toNat * (vW d).toNat=K at *
        rcases Nat.le_one_iff_eq_zero_or_eq_one.1 hb1 with h1|h1
        · exact h1
        · rw [h1,Nat.one_mul] at hv1N
          omega
      · rw [if_neg h]
        have h2:(Up / (vW d).toNat + 1) * (vW d).toNat≤g * (vW d).toNat:=Nat.mul_le_mul_right _ (by omega)
        rw [Nat.add_mul,Nat.one_mul] at h2
        generalize Up / (vW d).toNat * (vW d).toNat=K at *
        generalize g * (vW d).toNat=G at *
        rcases Nat.le_one_iff_eq_zero_or_eq_one.1 hb1 with h1|h1
        · rw [h1,Nat.zero_mul] at hv1N
          omega
        · exact h1
    have next : ∀ p',wfW p'→p'.length=d.length + 1→(vW p').toNat=Up % (vW d).toNat→∃ u' q':List Int,wfW u'∧u'.length=L∧wfW q'∧q'.length=q.length∧(vW u').toNat=U0 % (vW d).toNat∧(vW q').toNat=U0 / (vW d).toNat ∧
        ∀ R,Ev (fun k=>quot_long.l0 k u' d s q' (-1)) R→Ev (fun k=>quot_long.l0 k (A ++ p' ++ C) d s (q.set i ((Up / (vW d).toNat:Nat):Int)) ((i:Int) - 1)) R:=by
      intro p' hp' hp'l hp'v
      have hlen:(A ++ p' ++ C).length=L:=by
        rw [← hul,← hsplit]
        simp only [List.length_append,hp'l,hpl]
      have hdrop:(A ++ p' ++ C).drop i=p' ++ C:=by
        rw [List.append_assoc]
        exact List.drop_left' hA
      have hdv:(vW ((A ++ p' ++ C).drop i)).toNat < (vW d).toNat:=by
        rw [hdrop,vN_append hp' wC,hC0,Nat.mul_zero,Nat.add_zero,hp'v]
        exact hrm
      have hsetv:=vN_set hq i (Up / (vW d).toNat) hiq (hz i (Nat.lt_succ_self i))
      have hnew:U0=(vW (A ++ p' ++ C)).toNat + (vW d).toNat * (vW (q.set i ((Up / (vW d).toNat:Nat):Int))).toNat:=by
        rw [hval p' hp',hsetv,hU,hu0,hp'v,Nat.mul_add]
        have e1:18446744073709551616 ^ i * Up=18446744073709551616 ^ i * ((vW d).toNat * (Up / (vW d).toNat)) + 18446744073709551616 ^ i * (Up % (vW d).toNat):=by rw [← Nat.mul_add,hdm]
        have e2:(vW d).toNat * (18446744073709551616 ^ i * (Up / (vW d).toNat))=18446744073709551616 ^ i * ((vW d).toNat * (Up / (vW d).toNat)):=by rw [Nat.mul_left_comm]
        rw [e1,e2]
        generalize 18446744073709551616 ^ i * ((vW d).toNat * (Up / (vW d).toNat))=X
        generalize 18446744073709551616 ^ i * (Up % (vW d).toNat)=Y
        generalize (vW d).toNat * (vW q).toNat=Z
        generalize (vW A).toNat=V
        omega
      obtain ⟨u',q',r1,r2,r3,r4,r5,r6,r7⟩:=ih (by omega) (A ++ p' ++ C) (q.set i ((Up / (vW d).toNat:Nat):Int)) (wf_append (wf_append wA hp') wC) hlen (wf_set hq _ hqsb) (by rw [List.length_set];exact hql) hdv
        (fun j hj=>by rw [getD_set_ne _ _ _ _ _ (Nat.ne_of_gt hj)];exact hz j (Nat.lt_succ_of_lt hj)) hnew
      exact ⟨u',q',r1,r2,r3,by rw [r4,List.length_set],r5,r6,r7⟩
    have hsmall:Up % (vW d).toNat < 18446744073709551616 ^ (d.length + 1):=by
      rw [hPP]
      have:18446744073709551616 ^ d.length * 1≤18446744073709551616 ^ d.length * 18446744073709551616:=Nat.mul_le_mul_left _ (by decide)
      omega
    obtain ⟨p2,wp2,hp2l,hp2v⟩:=row_of (Up % (vW d).toNat) (d.length + 1) hsmall
    obtain ⟨u',q',r1,r2,r3,r4,r5,r6,r7⟩:=next p2 wp2 hp2l hp2v
    refine ⟨u',q',r1,r2,r3,r4,r5,r6,fun R hR=>?_⟩
    have fin : ∀ p',wfW p'→p'.length=d.length + 1→(vW p').toNat=Up % (vW d).toNat→Ev (fun k=>quot_long.l0 k (A ++ p' ++ C) d s (q.set i ((Up / (vW d).toNat:Nat):Int)) ((i:Int) - 1)) R:=by
      intro p' h1 h2 h3
      rw [row_inj h1 wp2 (by rw [h2,hp2l]) (by rw [h3,hp2v])]
      exact r7 R hR
    have hl1:=long_l1 A C d q s i Up (Up / (vW d).toNat) hd hA (by omega) hCl rfl hD0 hiq fin (g - Up / (vW d).toNat) p1 g b wp1 (by rw [hp1l,hpl]) (Nat.add_sub_cancel' g1).symm g2 hbe hv1N
    have e0:((i + 1:Nat):Int) - 1=(i:Int):=by omega
    have c1:(i:Int) < ((i + d.length + 1:Nat):Int):=by omega
    have c2:((i + d.length + 1:Nat):Int)≤(u.length:Int):=by omega
    have i2:wrap64 ((i:Int) + (d.length:Int))=((i + d.length:Nat):Int):=by rw [wrap_id (by omega)];omega
    have i3:wrap64 (((i + d.length:Nat):Int) + 1)=((i + d.length + 1:Nat):Int):=by clear i2;rw [wrap_id (by omega)];omega
    have hG:=guessW_ev (A:=A) (C:=C) hA hpl g3
    have hLs:=lessW_ev (A:=A) (C:=C) hA hpl hev1
    rw [hsplit] at hG hLs
    refine Ev.unroll ?_
    simp only [quot_long.l0,e0,i2,i3]
    clear i2 i3 e0
    refine Ev.pos (Int.natCast_nonneg _) (Ev.pos (Int.natCast_nonneg _) (Ev.pos c1 (Ev.pos c2 ?_)))
    exact Ev.bind hG (Ev.bind hLs hl1)
theorem shr_num (p q x V':Nat) (hp:0 < p) (hpq:p * q=18446744073709551616):(x + 18446744073709551616 * V') / p=(x / p + (V' % p) * q) + 18446744073709551616 * (V' / p):=by
  have h1:=Nat.div_add_mod V' p
  have e:x + 18446744073709551616 * V'=x + p * (q * V'):=by rw [← hpq,Nat.mul_assoc]
  rw [e,Nat.add_mul_div_left _ _ hp]
  have e2:q * V'=(V' % p) * q + 18446744073709551616 * (V' / p):=by
    calc q * V'=q * (p * (V' / p) + V' % p):=by rw [h1]
      _=(V' % p) * q + 18446744073709551616 * (V' / p):=by
        rw [Nat.mul_add,← Nat.mul_assoc,Nat.mul_comm q p,hpq,Nat.mul_comm q (V' % p),Nat.add_comm]
  rw [e2,Nat.add_assoc]
structure ShrInv (y out:List Int) (p i:Nat):Prop where
  w:wfW out
  len:out.length=y.length
  z:out.drop i=y.drop i
  v:(vW (out.take i)).toNat + 18446744073709551616 ^ i * ((vW (y.drop i)).toNat / p)=(vW y).toNat / p
theorem getD_drop (l:List Int) (i j:Nat):(l.drop i).getD j 0=l.getD (i + j) 0:=by
  rw [List.getD_eq_getElem?_getD,List.getElem?_drop,← List.getD_eq_getElem?_getD]
theorem vN_take_set {l:List Int} (h:wfW l) (i x:Nat) (hx:x < 18446744073709551616) (hi:i < l.length):(vW ((l.set i (x:Int)).take (i + 1))).toNat=(vW (l.take i)).toNat + 18446744073709551616 ^ i * x:=by
  have e:=vl_take_succ ((W:Nat):Int) (l.set i (x:Int)) i
  rw [getD_set_self _ _ _ _ hi,List.take_set_of_le (Nat.le_refl _)] at e
  have hP:((W:Nat):Int) ^ i=((18446744073709551616 ^ i:Nat):Int):=by rw [Int.natCast_pow]
  have h1:=vnat (wf_take h i)
  simp only [vW] at h1 ⊢
  rw [hP,← h1,← Int.natCast_mul,← Int.natCast_add] at e
  rw [e,Int.toNat_natCast]
theorem shr_l0 (y:List Int) (hy:wfW y) (hm:y.length < 17592186044416) (s p q:Nat) (hs:s≤63) (hp:2 ^ s=p) (hq:2 ^ (64 - s)=q) : ∀ e i:Nat,i + e=y.length→∀ out,ShrInv y out p i →
    Ev (fun k=>quot_Shr.l0 k out (s:Int) (y.length:Int) (i:Int)) (lim ((vW y).toNat / p),0):=by
  have hp0:0 < p:=by rw [← hp];exact Nat.pow_pos (by decide)
  have hpq:p * q=18446744073709551616:=by rw [← hp,← hq];exact (pow_le64 s hs).2
  have e64:IntKind.u64.wrap (64 - (s:Int))=((64 - s:Nat):Int):=by rw [u64_id (by omega)];omega
  intro e
  induction e with
  | zero =>
    intro i hi out h
    have hi':i=y.length:=hi
    subst hi'
    have hv:=h.v
    rw [show out.take y.length=out from List.take_of_length_le (by rw [h.len];exact Nat.le_refl _),List.drop_length] at hv
    have hv2:(vW out).toNat=(vW y).toNat / p:=by
      rw [← hv,show (vW ([]:List Int)).toNat=0 from rfl,Nat.zero_div,Nat.mul_zero,Nat.add_zero]
    refine Ev.unroll ?_
    simp only [quot_Shr.l0]
    refine Ev.neg (Int.lt_irrefl _) ?_
    refine Ev.bind (of_ev out h.w (by rw [h.len];exact hm)) ?_
    rw [hv2]
    exact Ev.const rfl
  | succ e ih =>
    intro i hi out h
    have hlen:=h.len
    have hiy:i < y.length:=by clear e64;omega
    have hio:i < out.length:=by clear e64;omega
    have wy:=wf_getD W_pos hy i
    rw [W_int] at wy
    obtain ⟨x,hx⟩:=Int.eq_ofNat_of_zero_le wy.1
    rw [hx] at wy
    have hxb:x < 18446744073709551616:=Int.ofNat_lt.1 wy.2
    have hox:out.getD i 0=(x:Int):=by
      rw [← hx,show i=i + 0 from rfl,← getD_drop out i 0,← getD_drop y i 0,h.z]
    have hdy:=vl_drop ((W:Nat):Int) y i hiy
    have hdyN:(vW (y.drop i)).toNat=x + 18446744073709551616 * (vW (y.drop (i + 1))).toNat:=by
      have h1:=vnat (wf_drop hy (i + 1))
      simp only [vW] at h1 ⊢
      rw [hx,← h1,← Int.natCast_mul,← Int.natCast_add] at hdy
      rw [hdy,Int.toNat_natCast]
    have hxp:x / p < q:=by
      refine (Nat.div_lt_iff_lt_mul hp0).2 ?_
      rw [Nat.mul_comm,hpq]
      exact hxb
    have hxp64:x / p < 18446744073709551616:=Nat.lt_of_le_of_lt (Nat.div_le_self _ _) hxb
    have hnum:=shr_num p q x (vW (y.drop (i + 1))).toNat hp0 hpq
    have hsh:shr .u64 (x:Int) (s:Int)=((x / p:Nat):Int):=by rw [shr_nat x s (by clear e64;omega),hp]
    have f0 : ∀ q:Nat,(0:Int)≤(q:Int):=fun q=>Int.natCast_nonneg q
    have f1:(i:Int) < (y.length:Int):=Int.ofNat_lt.2 hiy
    have f2:(i:Int) < (out.length:Int):=Int.ofNat_lt.2 hio
    have i1:wrap64 ((i:Int) + 1)=((i + 1:Nat):Int):=by clear e64 hsh hnum hdy hdyN;rw [wrap_id (by omega)];omega
    have hi2:i + 1 + e=y.length:=by clear e64 hsh hnum hdy hdyN i1;omega
    have fin : ∀ z:Nat,z < 18446744073709551616→z=x / p + ((vW (y.drop (i + 1))).toNat % p) * q→Ev (fun k=>quot_Shr.l0 k (out.set i (z:Int)) (s:Int) (y.length:Int) ((i + 1:Nat):Int)) (lim ((vW y).toNat / p),0):=by
      intro z hz hzv
      refine ih (i + 1) hi2 (out.set i (z:Int)) ⟨wf_set h.w _ ⟨Int.natCast_nonneg _,cast_lt hz⟩,by rw [List.length_set];exact hlen,?_,?_⟩
      · rw [drop_set_self]
        have:=congrArg (List.drop 1) h.z
        rw [List.drop_drop,List.drop_drop] at this
        exact this
      · rw [vN_take_set h.w i z hz hio,Nat.pow_succ,Nat.add_assoc,Nat.mul_assoc,← Nat.mul_add,hzv,← hnum,← hdyN]
        exact h.v
    refine Ev.unroll ?_
    simp only [quot_Shr.l0,i1,rd_nat,hox,hsh,Int.toNat_natCast]
    refine Ev.pos f1 (Ev.pos (f0 _) (Ev.pos f2 (Ev.pos (f0 _) ?_)))
    refine Ev.bind (Ev.const rfl) ?_
    by_cases hl:i + 1 < y.length
    · have wy2:=wf_getD W_pos hy (i + 1)
      rw [W_int] at wy2
      obtain ⟨x2,hx2⟩:=Int.eq_ofNat_of_zero_le wy2.1
      rw [hx2] at wy2
      have hx2b:x2 < 18446744073709551616:=Int.ofNat_lt.1 wy2.2
      have hox2:(out.set i ((x / p:Nat):Int)).getD (i + 1) 0=(x2:Int):=by
        rw [getD_set_ne _ _ _ _ _ (Nat.ne_of_lt (Nat.lt_succ_self i)),← hx2,← getD_drop out i 1,← getD_drop y i 1,h.z]
      have hlo:i + 1 < out.length:=by rw [hlen];exact hl
      have hos:(out.set i ((x / p:Nat):Int)).getD i 0=((x / p:Nat):Int):=getD_set_self _ _ _ _ hio
      have hsl:shl .u64 (x2:Int) ((64 - s:Nat):Int)=(((x2 % p) * q:Nat):Int):=by
        rw [shl_nat x2 (64 - s) (Nat.sub_le _ _),hq,← hpq,Nat.mul_mod_mul_right]
      have hx2p:=Nat.mod_lt x2 hp0
      have hz1:(x2 % p + 1) * q≤p * q:=Nat.mul_le_mul_right _ hx2p
      rw [Nat.add_mul,Nat.one_mul,hpq] at hz1
      have hzlt:x / p + (x2 % p) * q < 18446744073709551616:=Nat.lt_of_lt_of_le (Nat.add_lt_add_right hxp _) (by rw [Nat.add_comm];exact hz1)
      have hor:Go.bits .or .u64 ((x / p:Nat):Int) (((x2 % p) * q:Nat):Int)=((x / p + (x2 % p) * q:Nat):Int):=by
        rw [bits_or_u64_nat _ _ hxp64 (Nat.lt_of_le_of_lt (Nat.le_add_left _ _) hzlt)]
        congr 1
        rw [← hq] at hxp ⊢
        rw [Nat.or_comm,Nat.mul_comm,← Nat.two_pow_add_eq_or_of_lt hxp,Nat.add_comm]
      have hV:(vW (y.drop (i + 1))).toNat % p=x2 % p:=by
        obtain ⟨x3,hx3,hd3⟩:=vN_drop hy (i + 1) hl
        have e:=vl_drop ((W:Nat):Int) y (i + 1) hl
        have h1:=vnat (wf_drop hy (i + 1 + 1))
        simp only [vW] at h1 ⊢
        rw [hx2,← h1,← Int.natCast_mul,← Int.natCast_add] at e
        rw [e,Int.toNat_natCast,show (W:Nat)=p * q from hpq.symm,Nat.mul_assoc,Nat.add_mul_mod_self_left]
      have hlen2:((i + 1:Nat):Int) < ((out.set i ((x / p:Nat):Int)).length:Int):=by rw [List.length_set];exact Int.ofNat_lt.2 hlo
      refine Ev.pos (Int.ofNat_lt.2 hlo) ?_
      refine Ev.pos (f0 _) ?_
      rw [e64]
      refine Ev.pos (f0 _) ?_
      simp only [rd_nat,hox2,hos,hsl,hor,List.set_set]
      exact fin _ hzlt (by rw [hV])
    · have hend:y.drop (i + 1) = []:=List.drop_of_length_le (Nat.le_of_not_lt hl)
      have hlo : ¬ i + 1 < out.length:=by rw [hlen];exact hl
      refine Ev.neg (fun h2=>hlo (Int.ofNat_lt.1 h2)) ?_
      refine fin _ hxp64 ?_
      rw [hend,show (vW ([]:List Int)).toNat=0 from rfl,Nat.zero_mod,Nat.zero_mul,Nat.add_zero]
theorem shr_ev (a n:Nat) (hl:(lim a).length < 17592186044416) (hn:n≤262144):Ev (fun k=>quot_Shr.f k (lim a) (n:Int)) (lim (a / 2 ^ n),0):=by
  unfold quot_Shr.f quot_wrong.f
  have e1:Int.tdiv (n:Int) 64=((n / 64:Nat):Int):=(Int.tdiv_eq_ediv_of_nonneg (by omega)).trans (by rfl)
  have e2:Int.tmod (n:Int) 64=((n % 64:Nat):Int):=(Int.tmod_eq_emod_of_nonneg (by omega)).trans (by rfl)
  have e3:mn ((n / 64:Nat):Int) ((lim a).length:Int)=((min (n / 64) (lim a).length:Nat):Int):=by rw [mn_eq];omega
  have e4:wrap64 ((n / 64:Nat):Int)=((n / 64:Nat):Int):=wrap_id (by omega)
  have e5:IntKind.u64.wrap ((n % 64:Nat):Int)=((n % 64:Nat):Int):=u64_id (by omega)
  rw [if_neg (by omega),decide_eq_false (by omega)]
  simp only [Option.bind_some,e1,e2,e4,e5,e3]
  refine Ev.neg (by decide) (Ev.bindc (limbs_eq _ hl) ?_)
  simp only [e3,Int.toNat_natCast]
  refine Ev.pos (Int.natCast_nonneg _) (Ev.pos (by omega) ?_)
  refine Ev.bind (Ev.const rfl) ?_
  have wy:wfW ((lim a).drop (min (n / 64) (lim a).length)):=wf_drop (lim_wf a) _
  have hy:((lim a).drop (min (n / 64) (lim a).length)).length < 17592186044416:=by rw [List.length_drop];omega
  have hval:(vW ((lim a).drop (min (n / 64) (lim a).length))).toNat=a / 18446744073709551616 ^ (n / 64):=by
    have h:=vN_append (wf_take (lim_wf a) (min (n / 64) (lim a).length)) wy
    rw [List.take_append_drop,lim_v,Int.toNat_natCast,List.length_take,Nat.min_eq_left (Nat.min_le_right _ _)] at h
    have h1:=vlt (wf_take (lim_wf a) (min (n / 64) (lim a).length))
    rw [List.length_take,Nat.min_eq_left (Nat.min_le_right _ _)] at h1
    by_cases hc:n / 64≤(lim a).length
    · rw [Nat.min_eq_left hc] at h h1 ⊢
      have hP:0 < 18446744073709551616 ^ (n / 64):=Nat.pow_pos (by decide)
      generalize (vW (List.drop (n / 64) (lim a))).toNat=v2 at h ⊢
      generalize (vW (List.take (n / 64) (lim a))).toNat=v1 at h h1
      rw [h,Nat.add_mul_div_left _ _ hP,Nat.div_eq_of_lt h1,Nat.zero_add]
    · rw [Nat.min_eq_right (by omega),List.drop_length]
      have h2:=lim_lt a
      have h3:W ^ (lim a).length≤18446744073709551616 ^ (n / 64):=Nat.pow_le_pow_right (by decide) (by omega)
      rw [show (vW ([]:List Int)).toNat=0 from rfl,Nat.div_eq_of_lt (Nat.lt_of_lt_of_le h2 h3)]
  have:=shr_l0 _ wy hy (n % 64) (2 ^ (n % 64)) (2 ^ (64 - n % 64)) (by omega) rfl rfl ((lim a).drop (min (n / 64) (lim a).length)).length 0 (Nat.zero_add _) _ ⟨wy,rfl,rfl,by
    rw [List.take_zero,List.drop_zero,show (vW ([]:List Int)).toNat=0 from rfl,Nat.pow_zero,Nat.one_mul,Nat.zero_add]⟩
  rw [hval,Nat.div_div_eq_div_mul] at this
  have hpow:18446744073709551616 ^ (n / 64) * 2 ^ (n % 64)=2 ^ n:=by
    have:(18446744073709551616:Nat)=2 ^ 64:=by decide
    rw [this,← Nat.pow_mul,← Nat.pow_add]
    congr 1
    omega
  rw [hpow] at this
  exact this
theorem lim_N (a:Nat):(vW (lim a)).toNat=a:=by rw [lim_v,Int.toNat_natCast]
theorem drop_N {u:List Int} (hu:wfW u) (i:Nat) (hi:i≤u.length):(vW (u.drop i)).toNat=(vW u).toNat / 18446744073709551616 ^ i:=by
  have h:=vN_append (wf_take hu i) (wf_drop hu i)
  have h1:=vlt (wf_take hu i)
  rw [List.take_append_drop,List.length_take,Nat.min_eq_left hi] at h
  rw [List.length_take,Nat.min_eq_left hi] at h1
  have hP:0 < 18446744073709551616 ^ i:=Nat.pow_pos (by decide)
  rw [h,Nat.add_mul_div_left _ _ hP,Nat.div_eq_of_lt h1,Nat.zero_add]
theorem take_N {u:List Int} (hu:wfW u) (n:Nat) (hn:u.length=n + 1) (h:(vW u).toNat < 18446744073709551616 ^ n):(vW (u.take n)).toNat=(vW u).toNat:=by
  have h1:=vN_append (wf_take hu n) (wf_drop hu n)
  rw [List.take_append_drop,drop_N hu n (by omega),Nat.div_eq_of_lt h,Nat.mul_zero,Nat.add_zero] at h1
  exact h1.symm
theorem long_ev (a b:Nat) (hab:b≤a) (n:Nat) (hn:(lim b).length=n + 2) (hm:(lim a).length < 1099511627776) :
    ∃ q':List Int,wfW q'∧q'.length≤(lim a).length + 1∧(vW q').toNat=a / b∧Ev (fun k=>quot_long.f k (lim a) (lim b)) (q',lim (a % b)):=by
  have hlen:=len_mono hab
  have hb0:b≠0:=fun h=>by rw [h,lim_zero] at hn;simp at hn
  have wt:=wf_getD W_pos (lim_wf b) (n + 1)
  rw [W_int] at wt
  obtain ⟨t,ht⟩:=Int.eq_ofNat_of_zero_le wt.1
  have htop:=lim_top hb0
  have hn1:(lim b).length - 1=n + 1:=by rw [hn];rfl
  rw [hn1,ht] at htop
  have htv:t=b / W ^ (n + 1):=Int.ofNat.inj htop
  have ht0:t≠0:=by
    have:=top_pos hb0
    rw [hn1] at this
    rw [htv];exact this
  have htb:t < 18446744073709551616:=by rw [ht] at wt;exact Int.ofNat_lt.1 wt.2
  have hs64:=sz_64 t htb
  have hs0:0 < sz t:=by
    rcases Nat.eq_zero_or_pos (sz t) with h|h
    · have:=sz_lt t
      rw [h] at this
      exact absurd (Nat.lt_one_iff.1 this) ht0
    · exact h
  obtain ⟨s,hs⟩ : ∃ s,s=64 - sz t:=⟨_,rfl⟩
  have hs63:s≤63:=by omega
  have hp0:0 < 2 ^ s:=Nat.pow_pos (by decide)
  obtain ⟨u,wu,ul,uv,uev⟩:=moved_ev (lim a) (lim_wf a) (by omega) s hs63
  obtain ⟨r,wr,rl,rv,rev⟩:=moved_ev (lim b) (lim_wf b) (by omega) s hs63
  have uN:(vW u).toNat=a * 2 ^ s:=by rw [uv,lim_v,← Int.natCast_mul,Int.toNat_natCast]
  have rN:(vW r).toNat=b * 2 ^ s:=by rw [rv,lim_v,← Int.natCast_mul,Int.toNat_natCast]
  have hbW:W ^ (n + 1)≤b:=by have:=lim_le hb0;rwa [hn1] at this
  have hbtop:b < W ^ (n + 1) * (t + 1):=by
    rw [htv]
    exact Nat.lt_mul_div_succ b (Nat.pow_pos (by decide))
  have hnorm:=(norm_bd (Nat.pos_of_ne_zero ht0) htb).2
  rw [← hs] at hnorm
  have htp:(t + 1) * 2 ^ s≤18446744073709551616:=by
    have h1:=sz_lt t
    have h2:(t + 1) * 2 ^ s≤2 ^ sz t * 2 ^ s:=Nat.mul_le_mul_right _ h1
    rw [← Nat.pow_add,hs,show sz t + (64 - sz t)=64 by omega] at h2
    rw [hs]
    exact h2
  have hDlt:b * 2 ^ s < 18446744073709551616 ^ (n + 2):=by
    have h1:b * 2 ^ s < W ^ (n + 1) * (t + 1) * 2 ^ s:=Nat.mul_lt_mul_of_pos_right hbtop hp0
    have h2:W ^ (n + 1) * (t + 1) * 2 ^ s≤W ^ (n + 1) * 18446744073709551616:=by rw [Nat.mul_assoc];exact Nat.mul_le_mul_left _ htp
    exact Nat.lt_of_lt_of_le h1 h2
  have wy:wfW (r.take (n + 2)):=wf_take wr _
  have yl:(r.take (n + 2)).length=n + 2:=by rw [List.length_take,rl,hn];exact Nat.min_eq_left (Nat.le_succ _)
  have yN:(vW (r.take (n + 2))).toNat=b * 2 ^ s:=by rw [take_N wr (n + 2) (by rw [rl,hn]) (by rw [rN];exact hDlt),rN]
  generalize hy:r.take (n + 2)=y at *
  have hD0:0 < (vW y).toNat:=by rw [yN];exact Nat.mul_pos (Nat.pos_of_ne_zero hb0) hp0
  have hDge:18446744073709551616 ^ (n + 1)≤(vW y).toNat:=by
    rw [yN]
    have:W ^ (n + 1) * 1≤b * 2 ^ s:=Nat.mul_le_mul hbW hp0
    rw [Nat.mul_one] at this
    exact this
  have hytop:0 < y.getD (n + 1) 0:=by
    have h1:=(top_zero wy (n + 1) yl).2 hDge
    have h2:=(wf_getD W_pos wy (n + 1)).1
    omega
  have haW:=lim_lt a
  have hQ:u.length=(lim a).length + 1 - (n + 2) + (n + 2):=by rw [ul];omega
  have hstart:(vW (u.drop ((lim a).length + 1 - (n + 2)))).toNat < (vW y).toNat:=by
    rw [drop_N wu _ (by rw [ul];exact Nat.sub_le _ _),uN]
    refine (Nat.div_lt_iff_lt_mul (Nat.pow_pos (by decide))).2 ?_
    have h1:a * 2 ^ s < W ^ (lim a).length * 2 ^ s:=Nat.mul_lt_mul_of_pos_right haW hp0
    have h2:W ^ (n + 1) * 2 ^ s≤b * 2 ^ s:=Nat.mul_le_mul_right _ hbW
    have h3:W ^ (n + 1) * 2 ^ s * 18446744073709551616 ^ ((lim a).length + 1 - (n + 2))≤b * 2 ^ s * 18446744073709551616 ^ ((lim a).length + 1 - (n + 2)):=Nat.mul_le_mul_right _ h2
    have h4:W ^ (n + 1) * 2 ^ s * 18446744073709551616 ^ ((lim a).length + 1 - (n + 2))=W ^ (lim a).length * 2 ^ s:=by
      rw [Nat.mul_right_comm]
      show 18446744073709551616 ^ (n + 1) * 18446744073709551616 ^ _ * 2 ^ s=_
      rw [← Nat.pow_add,show n + 1 + ((lim a).length + 1 - (n + 2))=(lim a).length by omega]
    rw [yN]
    omega
  obtain ⟨u',q',r1,r2,r3,r4,r5,r6,r7⟩:=long_l0 y wy n yl hytop hD0 (s:Int) u.length (by omega) (a * 2 ^ s) ((lim a).length + 1 - (n + 2)) (by rw [yl,hQ];exact Nat.le_refl _) u (List.replicate ((lim a).length + 1 - (n + 2)) 0) wu rfl (wf_replicate W_pos _) (by rw [List.length_replicate,yl,hQ]) hstart
    (fun j hj=>by rw [List.getD_eq_getElem?_getD,List.getElem?_replicate];split <;> rfl)
    (by rw [uN,show vW (List.replicate ((lim a).length + 1 - (n + 2)) (0:Int))=0 from vl_replicate _ _];rfl)
  rw [yN] at r5 r6
  rw [Nat.mul_mod_mul_right] at r5
  rw [Nat.mul_div_mul_right _ _ hp0] at r6
  refine ⟨q',r3,by rw [r4,List.length_replicate];exact Nat.sub_le _ _,r6,?_⟩
  have hend:Ev (fun k=>quot_long.l0 k u' y (s:Int) q' (-1)) (q',lim (a % b)):=by
    refine Ev.unroll ?_
    simp only [quot_long.l0]
    refine Ev.neg (by decide) ?_
    refine Ev.bind (of_ev u' r1 (by rw [r2,ul];omega)) ?_
    rw [r5,wrap_id (x:=(s:Int)) (by omega)]
    have hl2:(lim (a % b * 2 ^ s)).length < 17592186044416:=by
      have h1:(lim (a % b * 2 ^ s)).length≤n + 2:=lim_len_le (Nat.lt_of_le_of_lt (Nat.mul_le_mul_right _ (Nat.le_of_lt (Nat.mod_lt a (Nat.pos_of_ne_zero hb0)))) hDlt)
      omega
    refine Ev.bind (shr_ev _ s hl2 (by omega)) ?_
    rw [Nat.mul_div_cancel _ hp0]
    have hl3:(lim (a % b)).length < 17592186044416:=Nat.lt_of_le_of_lt (len_mono (Nat.mod_le a b)) (by omega)
    exact Ev.bindc (limbs_eq _ hl3) (Ev.const rfl)
  have:=r7 _ hend
  unfold quot_long.f
  have e1:wrap64 (((lim b).length:Int) - 1)=((n + 1:Nat):Int):=by rw [hn,wrap_id (by omega)];omega
  have e2:IntKind.u64.wrap (s:Int)=(s:Int):=u64_id (by omega)
  have e3:wrap64 ((u.length:Int) - (y.length:Int))=(((lim a).length + 1 - (n + 2):Nat):Int):=by rw [yl,wrap_id (by omega)];omega
  have e4:wrap64 (((List.replicate ((lim a).length + 1 - (n + 2)) (0:Int)).length:Int) - 1)=(((lim a).length + 1 - (n + 2):Nat):Int) - 1:=by rw [List.length_replicate];exact wrap_id (by omega)
  have e5:r.take ((lim b).length)=y:=by rw [hn];exact hy
  simp only [e1,rd_nat,ht]
  have c1:((n + 1:Nat):Int) < ((lim b).length:Int):=by rw [hn];exact Int.ofNat_lt.2 (Nat.lt_succ_self _)
  have c2:((lim b).length:Int)≤(r.length:Int):=by rw [rl];exact Int.ofNat_le.2 (Nat.le_succ _)
  refine Ev.pos (Int.natCast_nonneg _) (Ev.pos c1 ?_)
  refine Ev.bind (Ev.lt 0 (fun k hk=>lz_eq t htb k hk)) ?_
  rw [← hs]
  simp only [e2]
  refine Ev.bind uev (Ev.bind rev ?_)
  refine Ev.pos (Int.natCast_nonneg _) (Ev.pos c2 ?_)
  refine Ev.bind (Ev.const rfl) ?_
  simp only [Int.toNat_natCast,e5,e3]
  refine Ev.pos (Int.natCast_nonneg _) (Ev.pos (by omega) ?_)
  refine Ev.bind (Ev.const rfl) ?_
  rw [e4]
  exact this
theorem div_ev (a b:Nat) (hb:b≠0) (la:(lim a).length < 1099511627776) (lb:(lim b).length < 1099511627776):Ev (fun k=>quot_Div.f k (lim a) (lim b)) (lim (a / b),lim (a % b),0):=by
  unfold quot_Div.f
  refine Ev.bindc (zero_eq b) ?_
  rw [decide_eq_false hb]
  refine Ev.neg (by decide) ?_
  refine Ev.bind (cmp_ev a b (by omega) (by omega)) ?_
  by_cases h:a < b
  · have hs:sg a b = -1:=by unfold sg;rw [if_pos h]
    rw [hs]
    refine Ev.pos (by decide) (Ev.const ?_)
    rw [Nat.div_eq_of_lt h,Nat.mod_eq_of_lt h,lim_zero]
  · have hs : ¬ sg a b < 0:=by
      unfold sg
      rw [if_neg h]
      split <;> omega
    refine Ev.neg hs ?_
    refine Ev.bindc (limbs_eq _ (by omega)) (Ev.bindc (limbs_eq _ (by omega)) ?_)
    have hlen:=len_mono (Nat.le_of_not_lt h)
    by_cases h1:(lim b).length=1
    · refine Ev.pos (by omega) (Ev.pos (by omega) ?_)
      have hbv:rd (lim b) 0=(b:Int):=by
        have ht:=lim_top hb
        rw [h1,Nat.sub_self,Nat.pow_zero,Nat.div_one] at ht
        exact ht
      have hbb:b < 18446744073709551616:=by
        have:=lim_lt b
        rw [h1,Nat.pow_one] at this
        exact this
      obtain ⟨q',w1,w2,w3,w4⟩:=by_ev (lim a) (lim_wf a) (by omega) b (Nat.pos_of_ne_zero hb) hbb
      rw [lim_N] at w3 w4
      have hm:=Nat.mod_lt a (Nat.pos_of_ne_zero hb)
      rw [hbv]
      refine Ev.bind w4 ?_
      have h2:=of_ev q' w1 (by omega)
      rw [w3,Int.toNat_natCast] at h2
      refine Ev.bind h2 ?_
      have wr:wfW [((a % b:Nat):Int)]:=fun x hx=>by rw [List.mem_singleton.1 hx];exact ⟨Int.natCast_nonneg _,cast_lt (Nat.lt_trans hm hbb)⟩
      have h3:=of_ev [((a % b:Nat):Int)] wr (by simp)
      have hv:vW [((a % b:Nat):Int)]=((a % b:Nat):Int):=by simp [vW,vl]
      rw [hv,Int.toNat_natCast] at h3
      exact Ev.bind h3 (Ev.const rfl)
    · refine Ev.neg (by omega) ?_
      have hl0:=lim_pos hb
      obtain ⟨n,hn⟩ : ∃ n,(lim b).length=n + 2:=⟨(lim b).length - 2,by omega⟩
      obtain ⟨q',w1,w2,w3,w4⟩:=long_ev a b (Nat.le_of_not_lt h) n hn la
      refine Ev.bind w4 ?_
      have h2:=of_ev q' w1 (by omega)
      rw [w3] at h2
      refine Ev.bind h2 ?_
      have h3:=of_ev (lim (a % b)) (lim_wf _) (Nat.lt_of_le_of_lt (len_mono (Nat.mod_le a b)) (by omega))
      rw [lim_N] at h3
      exact Ev.bind h3 (Ev.const rfl)
theorem gcd_ev (b:Nat) : ∀ a:Nat,(lim a).length < 1099511627776→(lim b).length < 1099511627776→Ev (fun k=>quot_Gcd.f k (lim a) (lim b)) (lim (Nat.gcd a b)):=by
  unfold quot_Gcd.f
  induction b using Nat.strongRecOn with
  | _ b ih =>
    intro a la lb
    refine Ev.unroll ?_
    simp only [quot_Gcd.l0]
    refine Ev.bindc (zero_eq b) ?_
    by_cases h:b=0
    · subst h
      rw [decide_eq_true rfl]
      refine Ev.pos rfl (Ev.const ?_)
      rw [Nat.gcd_zero_right]
    · rw [decide_eq_false h]
      refine Ev.neg (by decide) ?_
      refine Ev.bind (div_ev a b h la lb) ?_
      have hm:=Nat.mod_lt a (Nat.pos_of_ne_zero h)
      have:=ih (a % b) hm b lb (Nat.lt_of_le_of_lt (len_mono (Nat.le_of_lt hm)) lb)
      rw [show Nat.gcd a b=Nat.gcd b (a % b) by rw [Nat.gcd_comm a b,Nat.gcd_rec b a,Nat.gcd_comm]]
      exact this
def sgn (b:Bool) (n:Nat):Int:=if b=true then -(n:Int) else (n:Int)
theorem sgn_abs (b:Bool) (n:Nat):(sgn b n).natAbs=n:=by unfold sgn;split <;> omega
theorem sgn_neg (b:Bool) (n:Nat):decide (sgn b n < 0)=(b && decide (n≠0)):=by
  cases b
  · rw [Bool.false_and]
    exact decide_eq_false (by unfold sgn;rw [if_neg (by decide)];omega)
  · rw [Bool.true_and,decide_eq_decide]
    unfold sgn
    rw [if_pos rfl]
    omega
theorem sgn_self (z:Int):sgn (decide (z < 0)) z.natAbs=z:=by
  unfold sgn
  by_cases h:z < 0
  · rw [decide_eq_true h,if_pos rfl];omega
  · rw [decide_eq_false h,if_neg (by decide)];omega
theorem wOf (n:Nat) (b:Bool) {z:Int} (h:sgn b n=z):whole_Of.f (lim n) b=some (lim z.natAbs,decide (z < 0)):=by
  subst h
  rw [sgn_abs,sgn_neg]
  unfold whole_Of.f
  rw [zero_eq]
  cases b
  · rw [if_neg (by decide),Bool.false_and]
  · rw [if_pos rfl,Bool.true_and]
    by_cases hn:n=0
    · rw [Option.bind_some,decide_eq_true hn,decide_eq_false (by simpa using hn)];rfl
    · rw [Option.bind_some,decide_eq_false hn,decide_eq_true hn];rfl
theorem wSign (z:Int):whole_Int_Sign.f (lim z.natAbs) (decide (z < 0))=some z.sign:=by
  unfold whole_Int_Sign.f
  rw [zero_eq,Option.bind_some]
  by_cases h:z < 0
  · rw [decide_eq_false (by omega),if_neg (by decide),decide_eq_true h,if_pos rfl,Int.sign_eq_neg_one_of_neg h]
  · by_cases h0:z=0
    · subst h0;rfl
    · rw [decide_eq_false (by omega),if_neg (by decide),decide_eq_false h,if_neg (by decide),Int.sign_eq_one_of_pos (by omega)]
theorem wNeg (z:Int):whole_Int_Neg.f (lim z.natAbs) (decide (z < 0))=some (lim (-z).natAbs,decide (-z < 0)):=by
  unfold whole_Int_Neg.f
  rw [wOf (z := -z) _ _ ?_]
  · rfl
  · unfold sgn
    by_cases h:z < 0
    · rw [decide_eq_true h,if_neg (by decide)];omega
    · rw [decide_eq_false h,if_pos (by decide)];omega
theorem sgn_mul (x y:Int):sgn (decide (x < 0) != decide (y < 0)) (x.natAbs * y.natAbs)=x * y:=by
  have key : ∀ a b:Int,(sgn (decide (a < 0)) a.natAbs) * (sgn (decide (b < 0)) b.natAbs)=sgn (decide (a < 0) != decide (b < 0)) (a.natAbs * b.natAbs):=by
    intro a b
    unfold sgn
    by_cases ha:a < 0 <;> by_cases hb:b < 0
    · rw [decide_eq_true ha,decide_eq_true hb,if_pos rfl,if_pos rfl,if_neg (by decide),Int.neg_mul_neg,Int.natCast_mul]
    · rw [decide_eq_true ha,decide_eq_false hb,if_pos rfl,if_neg (by decide),if_pos (by decide),Int.neg_mul,Int.natCast_mul]
    · rw [decide_eq_false ha,decide_eq_true hb,if_neg (by decide),if_pos rfl,if_pos (by decide),Int.mul_neg,Int.natCast_mul]
    · rw [decide_eq_false ha,decide_eq_false hb,if_neg (by decide),if_neg (by decide),if_neg (by decide),Int.natCast_mul]
  rw [← key,sgn_self,sgn_self]
theorem wMul (x y:Int) (lx:(lim x.natAbs).length≤1000000000) (ly:(lim y.natAbs).length≤1000000000):Ev (fun k=>whole_Int_Mul.f k (lim x.natAbs) (decide (x < 0)) (lim y.natAbs) (decide (y < 0))) (lim (x * y).natAbs,decide (x * y < 0)):=by
  unfold whole_Int_Mul.f
  refine Ev.bind (mul_lim x.natAbs y.natAbs (by omega) (by omega)) ?_
  refine Ev.bindc (wOf _ _ (sgn_mul x y)) (Ev.const rfl)
theorem wAdd (x y:Int) (lx:(lim x.natAbs).length≤1000000000) (ly:(lim y.natAbs).length≤1000000000):Ev (fun k=>whole_Int_Add.f k (lim x.natAbs) (decide (x < 0)) (lim y.natAbs) (decide (y < 0))) (lim (x + y).natAbs,decide (x + y < 0)):=by
  unfold whole_Int_Add.f
  by_cases h:decide (x < 0)=decide (y < 0)
  · refine Ev.pos (by rw [h];exact beq_self_eq_true _) ?_
    refine Ev.bind (add_lim x.natAbs y.natAbs (by omega) (by omega)) ?_
    refine Ev.bindc (wOf (z:=x + y) _ _ ?_) (Ev.const rfl)
    rw [decide_eq_decide] at h
    unfold sgn
    by_cases hx:x < 0
    · rw [decide_eq_true hx,if_pos rfl];omega
    · rw [decide_eq_false hx,if_neg (by decide)];omega
  · refine Ev.neg (by rw [beq_iff_eq];exact h) ?_
    rw [decide_eq_decide] at h
    refine Ev.bind (sub_ev x.natAbs y.natAbs (by omega) (by omega)) ?_
    by_cases hl:x.natAbs < y.natAbs
    · rw [if_pos hl]
      refine Ev.neg (by decide) ?_
      refine Ev.bind (sub_ev y.natAbs x.natAbs (by omega) (by omega)) ?_
      rw [if_neg (by omega)]
      refine Ev.bindc (wOf (z:=x + y) _ _ ?_) (Ev.const rfl)
      unfold sgn
      by_cases hy:y < 0
      · rw [decide_eq_true hy,if_pos rfl];omega
      · rw [decide_eq_false hy,if_neg (by decide)];omega
    · rw [if_neg hl]
      refine Ev.pos rfl ?_
      refine Ev.bindc (wOf (z:=x + y) _ _ ?_) (Ev.const rfl)
      unfold sgn
      by_cases hx:x < 0
      · rw [decide_eq_true hx,if_pos rfl];omega
      · rw [decide_eq_false hx,if_neg (by decide)];omega
theorem wSub (x y:Int) (lx:(lim x.natAbs).length≤1000000000) (ly:(lim y.natAbs).length≤1000000000):Ev (fun k=>whole_Int_Sub.f k (lim x.natAbs) (decide (x < 0)) (lim y.natAbs) (decide (y < 0))) (lim (x - y).natAbs,decide (x - y < 0)):=by
  unfold whole_Int_Sub.f
  refine Ev.bindc (wNeg y) ?_
  have h:=wAdd x (-y) lx (by rw [Int.natAbs_neg];exact ly)
  rw [← Int.sub_eq_add_neg] at h
  exact Ev.bind h (Ev.const rfl)
theorem wCmp (x y:Int) (lx:(lim x.natAbs).length≤1000000000) (ly:(lim y.natAbs).length≤1000000000):Ev (fun k=>whole_Int_Cmp.f k (lim x.natAbs) (decide (x < 0)) (lim y.natAbs) (decide (y < 0))) (x - y).sign:=by
  unfold whole_Int_Cmp.f
  refine Ev.bind (wSub x y lx ly) ?_
  exact Ev.bindc (wSign _) (Ev.const rfl)
theorem vW_one (c:Int):vW [c]=c:=by simp [vW,vl]
theorem wFrom (n:Int) (h : -9223372036854775808≤n∧n≤9223372036854775807):Ev (fun k=>whole_From.f k n) (lim n.natAbs,decide (n < 0)):=by
  unfold whole_From.f
  by_cases hn:n < 0
  · refine Ev.pos hn ?_
    have e:IntKind.u64.wrap (-(IntKind.u64.wrap n))=(n.natAbs:Int):=by rw [u64_wrap,u64_wrap];omega
    rw [e]
    have hw:wfW [(n.natAbs:Int)]:=fun x hx=>by rw [List.mem_singleton.1 hx];exact ⟨by omega,by show (n.natAbs:Int) < 18446744073709551616;omega⟩
    refine Ev.bind (of_lim (a:=n.natAbs) (n:=1) (vW_one _) hw (Nat.le_refl 1) (by decide)) ?_
    refine Ev.bindc (wOf (z:=n) _ _ ?_) (Ev.const rfl)
    unfold sgn
    rw [if_pos rfl]
    omega
  · refine Ev.neg hn ?_
    have e:IntKind.u64.wrap n=(n.natAbs:Int):=by rw [u64_wrap];omega
    rw [e]
    have hw:wfW [(n.natAbs:Int)]:=fun x hx=>by rw [List.mem_singleton.1 hx];exact ⟨by omega,by show (n.natAbs:Int) < 18446744073709551616;omega⟩
    refine Ev.bind (of_lim (a:=n.natAbs) (n:=1) (vW_one _) hw (Nat.le_refl 1) (by decide)) ?_
    refine Ev.bindc (wOf (z:=n) _ _ ?_) (Ev.const rfl)
    unfold sgn
    rw [if_neg (by decide)]
    omega
theorem wlen_mul (x y:Int):(lim (x * y).natAbs).length≤(lim x.natAbs).length + (lim y.natAbs).length:=by
  rw [Int.natAbs_mul];exact len_mul _ _
theorem wlen_add (x y:Int):(lim (x + y).natAbs).length≤max (lim x.natAbs).length (lim y.natAbs).length + 1 :=
  Nat.le_trans (len_mono (Int.natAbs_add_le x y)) (len_add _ _)
theorem den_pos (q:Rat):0 < q.den:=q.den_pos
def Sz (n:Nat) (q:Rat):Prop:=(lim q.num.natAbs).length≤n∧(lim q.den).length≤n
theorem one_lim:Ev (fun k=>nat_Of.f k ([1]:List Int)) (lim 1) :=
  of_lim (a:=1) (vW_one 1) (fun x hx=>by rw [List.mem_singleton.1 hx];exact ⟨by decide,by show (1:Int) < 18446744073709551616;decide⟩) (Nat.le_refl 1) (by decide)
theorem len_one:(lim 1).length≤1:=lim_len_le (by decide)
theorem nat_abs (d:Nat):((d:Int)).natAbs=d:=Int.natAbs_natCast d
theorem nat_neg (d:Nat):decide ((d:Int) < 0)=false:=decide_eq_false (by omega)
theorem wMulN (x:Int) (d:Nat) (lx:(lim x.natAbs).length≤1000000000) (ld:(lim d).length≤1000000000):Ev (fun k=>whole_Int_Mul.f k (lim x.natAbs) (decide (x < 0)) (lim d) false) (lim (x * d).natAbs,decide (x * d < 0)):=by
  have h:=wMul x (d:Int) lx (by rw [nat_abs];exact ld)
  rw [nat_abs,nat_neg] at h
  exact h
theorem fDen {q:Rat} {a:List Int} {b:Bool} (h:(lim q.den).length≤1000000000):Ev (fun k=>frac_Frac_Den.f k a b (lim (q.den - 1))) (lim q.den):=by
  unfold frac_Frac_Den.f
  have l1:=len_one
  have l2:=len_mono (Nat.sub_le q.den 1)
  refine Ev.bind one_lim ?_
  have h1:=add_lim (q.den - 1) 1 (by omega) (by omega)
  rw [Nat.sub_add_cancel (den_pos q)] at h1
  exact Ev.bind h1 (Ev.const rfl)
theorem fden {q:Rat} {a:List Int} {b:Bool} (h:(lim q.den).length≤1000000000):Ev (fun k=>frac_Frac_den.f k a b (lim (q.den - 1))) (lim q.den,false):=by
  unfold frac_Frac_den.f
  refine Ev.bind (fDen h) ?_
  have h1:=wOf q.den false (z:=(q.den:Int)) (by unfold sgn;rw [if_neg (by decide)])
  rw [nat_abs,nat_neg] at h1
  exact Ev.bindc h1 (Ev.const rfl)
theorem mk_num (z:Int) (d:Nat) (hd:0 < d):sgn (decide (z.sign < 0)) (z.natAbs / Nat.gcd z.natAbs d)=(mkRat z d).num:=by
  rw [Rat.num_mkRat,if_neg (by omega),Nat.gcd_comm d]
  have hg:0 < Nat.gcd z.natAbs d:=Nat.gcd_pos_of_pos_right _ hd
  obtain ⟨c,hc⟩:((Nat.gcd z.natAbs d:Nat):Int) ∣ z:=Int.ofNat_dvd_left.2 (Nat.gcd_dvd_left _ _)
  generalize Nat.gcd z.natAbs d=g at *
  have h1:z / (g:Int)=c:=by rw [hc];exact Int.mul_ediv_cancel_left _ (by omega)
  have h2:z.natAbs / g=c.natAbs:=by rw [hc,Int.natAbs_mul,Int.natAbs_natCast];exact Nat.mul_div_cancel_left _ hg
  have h3:decide (z.sign < 0)=decide (c < 0):=by
    rw [decide_eq_decide]
    have:z.sign=c.sign:=by rw [hc,Int.sign_mul,Int.sign_eq_one_of_pos (by omega),Int.one_mul]
    rw [this]
    constructor
    · intro h;exact Int.sign_neg_iff.1 h
    · intro h;exact Int.sign_neg_iff.2 h
  rw [h1,h2,h3,sgn_self]
theorem mk_den (z:Int) (d:Nat) (hd:0 < d):d / Nat.gcd z.natAbs d=(mkRat z d).den:=by
  rw [Rat.den_mkRat,if_neg (by omega),Nat.gcd_comm d]
theorem mk_abs (z:Int) (d:Nat) (hd:0 < d):(mkRat z d).num.natAbs=z.natAbs / Nat.gcd z.natAbs d:=by rw [← mk_num z d hd,sgn_abs]
theorem mk_size {n:Nat} {z:Int} {d:Nat} (hd:0 < d) (h1:(lim z.natAbs).length≤n) (h2:(lim d).length≤n):Sz n (mkRat z d):=by
  have a1:=len_mono (Nat.div_le_self z.natAbs (Nat.gcd z.natAbs d))
  have a2:=len_mono (Nat.div_le_self d (Nat.gcd z.natAbs d))
  rw [← mk_abs z d hd] at a1
  rw [mk_den z d hd] at a2
  exact ⟨by omega,by omega⟩
theorem fmade (z:Int) (d:Nat) (hd:0 < d) (lz:(lim z.natAbs).length≤400000000) (ld:(lim d).length≤400000000) :
    Ev (fun k=>frac_made.f k (lim z.natAbs) (decide (z < 0)) (lim d)) (lim (mkRat z d).num.natAbs,decide ((mkRat z d).num < 0),lim ((mkRat z d).den - 1)):=by
  have hg:Nat.gcd z.natAbs d≠0:=Nat.ne_of_gt (Nat.gcd_pos_of_pos_right _ hd)
  have lg:=len_mono (Nat.gcd_le_right z.natAbs hd)
  have l1:=len_one
  have hdq:1≤d / Nat.gcd z.natAbs d:=by rw [mk_den z d hd];exact den_pos _
  have lq:=len_mono (Nat.div_le_self d (Nat.gcd z.natAbs d))
  unfold frac_made.f
  refine Ev.bindc (a:=whole_Int_Abs.f (lim z.natAbs) (decide (z < 0))) rfl ?_
  refine Ev.bind (gcd_ev d z.natAbs (by omega) (by omega)) ?_
  refine Ev.bindc (a:=whole_Int_Abs.f (lim z.natAbs) (decide (z < 0))) rfl ?_
  refine Ev.bind (div_ev z.natAbs (Nat.gcd z.natAbs d) hg (by omega) (by omega)) ?_
  refine Ev.bind (div_ev d (Nat.gcd z.natAbs d) hg (by omega) (by omega)) ?_
  refine Ev.bind one_lim ?_
  have hs:=sub_ev (d / Nat.gcd z.natAbs d) 1 (by omega) (by omega)
  rw [if_neg (by omega)] at hs
  refine Ev.bind hs ?_
  refine Ev.bindc (wSign z) ?_
  refine Ev.bindc (wOf _ _ (mk_num z d hd)) (Ev.const ?_)
  rw [mk_den z d hd]
theorem fAdd {n m:Nat} {p q:Rat} (hp:Sz n p) (hq:Sz m q) (hn:n≤100000000) (hm:m≤100000000) :
    Ev (fun k=>frac_Frac_Add.f k (lim p.num.natAbs) (decide (p.num < 0)) (lim (p.den - 1)) (lim q.num.natAbs) (decide (q.num < 0)) (lim (q.den - 1))) (lim (p + q).num.natAbs,decide ((p + q).num < 0),lim ((p + q).den - 1))∧Sz (n + m + 1) (p + q):=by
  have m1:=wlen_mul p.num (q.den:Int)
  have m2:=wlen_mul q.num (p.den:Int)
  have m3:=wlen_add (p.num * (q.den:Int)) (q.num * (p.den:Int))
  have m4:=len_mul p.den q.den
  rw [nat_abs] at m1 m2
  obtain ⟨p1,p2⟩:=hp
  obtain ⟨q1,q2⟩:=hq
  have hd:0 < p.den * q.den:=Nat.mul_pos (den_pos p) (den_pos q)
  rw [Rat.add_def']
  refine ⟨?_,mk_size hd (by omega) (by omega)⟩
  unfold frac_Frac_Add.f
  refine Ev.bind (fden (by omega)) ?_
  refine Ev.bind (wMulN p.num q.den (by omega) (by omega)) ?_
  refine Ev.bind (fden (by omega)) ?_
  refine Ev.bind (wMulN q.num p.den (by omega) (by omega)) ?_
  refine Ev.bind (wAdd _ _ (by omega) (by omega)) ?_
  refine Ev.bind (fDen (by omega)) ?_
  refine Ev.bind (fDen (by omega)) ?_
  refine Ev.bind (mul_lim p.den q.den (by omega) (by omega)) ?_
  exact Ev.bind (fmade _ _ hd (by omega) (by omega)) (Ev.const rfl)
theorem fCmp {n m:Nat} {p q:Rat} (hp:Sz n p) (hq:Sz m q) (hn:n≤100000000) (hm:m≤100000000) :
    Ev (fun k=>frac_Frac_Cmp.f k (lim p.num.natAbs) (decide (p.num < 0)) (lim (p.den - 1)) (lim q.num.natAbs) (decide (q.num < 0)) (lim (q.den - 1))) (p.num * q.den - q.num * p.den).sign:=by
  have m1:=wlen_mul p.num (q.den:Int)
  have m2:=wlen_mul q.num (p.den:Int)
  rw [nat_abs] at m1 m2
  obtain ⟨p1,p2⟩:=hp
  obtain ⟨q1,q2⟩:=hq
  unfold frac_Frac_Cmp.f
  refine Ev.bind (fden (by omega)) ?_
  refine Ev.bind (wMulN p.num q.den (by omega) (by omega)) ?_
  refine Ev.bind (fden (by omega)) ?_
  refine Ev.bind (wMulN q.num p.den (by omega) (by omega)) ?_
  exact Ev.bind (wCmp _ _ (by omega) (by omega)) (Ev.const rfl)
theorem fFrom (z:Int):frac_From.f (lim z.natAbs) (decide (z < 0))=some (lim (z:Rat).num.natAbs,decide ((z:Rat).num < 0),lim ((z:Rat).den - 1)):=by
  rw [Rat.num_intCast,Rat.den_intCast,Nat.sub_self,lim_zero]
  rfl
theorem sz_int {n:Nat} {z:Int} (h:(lim z.natAbs).length≤n) (hn:1≤n):Sz n (z:Rat):=by
  have l1:=len_one
  refine ⟨?_,?_⟩
  · rw [Rat.num_intCast];exact h
  · rw [Rat.den_intCast];omega
theorem D2:2≤10000:=by decide
def dig (n:Nat):List Int:=dg 10000 n
abbrev wfD (l:List Int):Prop:=wf ((10000:Nat):Int) l
abbrev vD (l:List Int):Int:=vl ((10000:Nat):Int) l
theorem D_pos:(0:Int) < ((10000:Nat):Int):=by decide
theorem D_int:((10000:Nat):Int)=10000:=rfl
theorem dig_wf (n:Nat):wfD (dig n):=dg_wf D2 n
theorem dig_v (n:Nat):vD (dig n)=n:=dg_vl D2 n
theorem dig_zero:dig 0 = []:=dg_zero 10000
theorem dig_nil {n:Nat}:(dig n).length=0 ↔ n=0:=by
  constructor
  · intro h
    by_cases h0:n=0
    · exact h0
    · unfold dig at h;rw [dg_pos D2 h0] at h;simp at h
  · intro h;subst h;rw [dig_zero];rfl
theorem dig_len_le {n m:Nat} (h:n < 10000 ^ m):(dig n).length≤m:=dg_len_le D2 h
theorem dig_lt (n:Nat):n < 10000 ^ (dig n).length:=dg_lt D2 n
theorem dig_le {n:Nat} (h:n≠0):10000 ^ ((dig n).length - 1)≤n:=dg_le D2 h
theorem dlen_lt {a b:Nat} (h:(dig a).length < (dig b).length):a < b:=by
  have h1:=dig_lt a
  have h2:b≠0:=fun h0=>by subst h0;rw [dig_zero] at h;simp at h
  have h3:=dig_le h2
  have h4:10000 ^ (dig a).length≤10000 ^ ((dig b).length - 1):=Nat.pow_le_pow_right (by decide) (by omega)
  omega
theorem dlen_mono {a b:Nat} (h:a≤b):(dig a).length≤(dig b).length:=by
  rcases Nat.lt_or_ge (dig b).length (dig a).length with h1|h1
  · have:=dlen_lt h1;omega
  · exact h1
theorem dlen_add (a b:Nat):(dig (a + b)).length≤max (dig a).length (dig b).length + 1:=by
  refine dig_len_le ?_
  have h1:=dig_lt a
  have h2:=dig_lt b
  have h3:10000 ^ (dig a).length≤10000 ^ (max (dig a).length (dig b).length):=Nat.pow_le_pow_right (by decide) (by omega)
  have h4:10000 ^ (dig b).length≤10000 ^ (max (dig a).length (dig b).length):=Nat.pow_le_pow_right (by decide) (by omega)
  rw [Nat.pow_succ]
  generalize 10000 ^ (max (dig a).length (dig b).length)=p at *
  omega
theorem dlen_mul (a b:Nat):(dig (a * b)).length≤(dig a).length + (dig b).length:=by
  refine dig_len_le ?_
  rw [Nat.pow_add]
  exact Nat.mul_lt_mul_of_lt_of_lt (dig_lt a) (dig_lt b)
theorem dlen_lim (n:Nat):(dig n).length≤5 * (lim n).length:=by
  refine dig_len_le ?_
  have h1:=lim_lt n
  rw [Nat.pow_mul]
  exact Nat.lt_of_lt_of_le h1 (Nat.pow_le_pow_left (by decide) _)
theorem Trim_l0 (x:List Int) (hx:wfD x) (hl:x.length < 4611686018427387904) : ∀ n:Nat,n≤x.length→vD (x.take n)=vD x→∀ k,n < k→chattelref01_Trim.l0 k x (n:Int)=some (dig (vD x).toNat):=by
  intro n
  induction n with
  | zero =>
    intro hn hv k hk
    obtain ⟨k,rfl⟩ : ∃ m,k=m + 1:=⟨k - 1,by omega⟩
    simp only [chattelref01_Trim.l0]
    rw [if_neg (by omega),if_pos (by omega),if_pos (by omega)]
    have:vD x=0:=by rw [← hv];rfl
    rw [this]
    show some (x.take 0)=some (dg 10000 0)
    rw [dg_zero]
    rfl
  | succ n ih =>
    intro hn hv k hk
    obtain ⟨k,rfl⟩ : ∃ m,k=m + 1:=⟨k - 1,by omega⟩
    have e1:wrap64 (((n + 1:Nat):Int) - 1)=(n:Int):=by rw [wrap_id (by omega)];omega
    simp only [chattelref01_Trim.l0]
    rw [if_pos (by omega),e1,if_pos (by omega),if_pos (by omega),rd_nat]
    by_cases h0:x.getD n 0=0
    · rw [if_pos h0]
      refine ih (by omega) ?_ k (by omega)
      rw [← hv]
      show vl _ _=vl _ _
      rw [vl_take_succ,h0,Int.mul_zero,Int.add_zero]
    · rw [if_neg h0,if_pos (by omega),if_pos (by omega),Int.toNat_natCast]
      have h1:=dg_of D2 (wf_take hx (n + 1)) (fun hne=>by
        have h2:(x.take (n + 1)).getLast hne=x.getD n 0:=by
          have h3:(x.take (n + 1)).length=n + 1:=by rw [List.length_take];omega
          rw [List.getLast_eq_getElem,List.getElem_take,List.getD_eq_getElem?_getD,List.getElem?_eq_getElem (by omega)]
          simp [h3]
        rw [h2];exact h0)
      rw [← h1]
      show some (dig _)=_
      rw [show vl ((10000:Nat):Int) (x.take (n + 1))=vD x from hv]
theorem Trim_ev (x:List Int) (hx:wfD x) (hl:x.length < 4611686018427387904):Ev (fun k=>chattelref01_Trim.f k x) (dig (vD x).toNat):=by
  refine Ev.lt x.length (fun k hk=>?_)
  unfold chattelref01_Trim.f
  exact Trim_l0 x hx hl x.length (Nat.le_refl _) (vl_take_ge _ _ _ (Nat.le_refl _)) k hk
theorem at_eq (l:List Int) (i:Nat):chattelref01_at.f l (i:Int)=some (l.getD i 0):=by
  unfold chattelref01_at.f
  by_cases h:l.length≤i
  · rw [if_pos (by omega),List.getD_eq_getElem?_getD,List.getElem?_eq_none h];rfl
  · rw [if_neg (by omega),if_pos (by omega),if_pos (by omega),rd_nat]
theorem tdiv_pos {a b:Int} (h:0≤a):Int.tdiv a b=a / b:=Int.tdiv_eq_ediv_of_nonneg h
theorem tmod_pos {a b:Int} (h:0≤a):Int.tmod a b=a % b:=Int.tmod_eq_emod_of_nonneg h
structure RAddInv (a b x:List Int) (c:Int) (i:Nat):Prop where
  w:wfD x
  len:x.length=i
  c0:0≤c∧c≤1
  v:vD x + c * ((10000:Nat):Int) ^ i=vD (a.take i) + vD (b.take i)
theorem RAdd_l0 (a b:List Int) (ha:wfD a) (hb:wfD b) (m:Nat) (hm:m < 17592186044415) (hma:a.length≤m∧b.length≤m) :
    ∀ d i:Nat,i + d=m + 1→∀ x c,RAddInv a b x c i→Ev (fun k=>chattelref01_Add.l0 k a b x c (i:Int)) (dig (vD a + vD b).toNat):=by
  intro d
  have fin : ∀ i:Nat,a.length≤i→b.length≤i→i≤m + 1→∀ x c,RAddInv a b x c i→c=0→Ev (fun k=>chattelref01_Add.j1 k a b x c (i:Int) false) (dig (vD a + vD b).toNat):=by
    intro i h1 h2 h3 x c h hc
    refine Ev.unroll ?_
    simp only [chattelref01_Add.j1]
    refine Ev.neg (by decide) ?_
    have hv:=h.v
    rw [show vD (a.take i)=vD a from vl_take_ge _ _ _ h1,show vD (b.take i)=vD b from vl_take_ge _ _ _ h2,hc,Int.zero_mul,Int.add_zero] at hv
    rw [← hv]
    exact Ev.bind (f:=fun _ t=>some t) (Trim_ev x h.w (by rw [h.len];omega)) (Ev.now _)
  induction d with
  | zero =>
    intro i hi x c h
    have hi':i=m + 1:=by omega
    subst hi'
    have hc:c=0:=by
      have hv:=h.v
      rw [show vD (a.take (m + 1))=vD a from vl_take_ge _ _ _ (by omega),show vD (b.take (m + 1))=vD b from vl_take_ge _ _ _ (by omega)] at hv
      have h1:=vl_lt D_pos ha
      have h2:=vl_lt D_pos hb
      have h3:=vl_nonneg D_pos h.w
      have h4:((10000:Nat):Int) ^ a.length≤((10000:Nat):Int) ^ m:=by
        rw [← Int.natCast_pow,← Int.natCast_pow];exact Int.ofNat_le.2 (Nat.pow_le_pow_right (by decide) (by omega))
      have h5:((10000:Nat):Int) ^ b.length≤((10000:Nat):Int) ^ m:=by
        rw [← Int.natCast_pow,← Int.natCast_pow];exact Int.ofNat_le.2 (Nat.pow_le_pow_right (by decide) (by omega))
      have h6:((10000:Nat):Int) ^ (m + 1)=((10000:Nat):Int) ^ m * 10000:=Int.pow_succ _ _
      have h7:0≤((10000:Nat):Int) ^ m:=Int.pow_nonneg (by decide)
      rcases Int.le_iff_lt_or_eq.1 h.c0.1 with h8|h8
      · have h9:c=1:=by have:=h.c0.2;omega
        rw [h9,h6] at hv
        simp only [vD] at hv
        omega
      · exact h8.symm
    refine Ev.unroll ?_
    simp only [chattelref01_Add.l0]
    refine Ev.neg (by omega) (Ev.neg (by omega) ?_)
    rw [decide_eq_false (by omega)]
    exact fin (m + 1) (by omega) (by omega) (Nat.le_refl _) x c h hc
  | succ d ih =>
    intro i hi x c h
    have go:Ev (fun k=>chattelref01_Add.j1 k a b x c (i:Int) true) (dig (vD a + vD b).toNat):=by
      refine Ev.unroll ?_
      simp only [chattelref01_Add.j1]
      refine Ev.pos (by decide) ?_
      have wa:=wf_getD D_pos ha i
      have wb:=wf_getD D_pos hb i
      rw [D_int] at wa wb
      have hc:=h.c0
      have e1:wrap64 ((i:Int) + 1)=((i + 1:Nat):Int):=by rw [wrap_id (by omega)];omega
      have e2:wrap64 (wrap64 (a.getD i 0 + b.getD i 0) + c)=a.getD i 0 + b.getD i 0 + c:=by rw [wrap_id (x:=a.getD i 0 + b.getD i 0) (by omega),wrap_id (by omega)]
      simp only [at_eq,Option.bind_some,e1,e2]
      rw [tdiv_pos (by omega),tmod_pos (by omega),wrap_id (x:=(a.getD i 0 + b.getD i 0 + c) / 10000) (by omega)]
      refine Ev.pos (by rw [h.len];omega) ?_
      refine ih (i + 1) (by omega) _ _ ⟨wf_append h.w (wf_cons.2 ⟨by rw [D_int];omega,wf_nil _⟩),by rw [List.length_append,h.len];rfl,by omega,?_⟩
      have hv:=h.v
      show vl _ _ + _=vl _ _ + vl _ _
      rw [vl_append,h.len,vl_take_succ,vl_take_succ,Int.pow_succ]
      simp only [vD,vl] at hv ⊢
      have e3:(a.getD i 0 + b.getD i 0 + c) % 10000 + 10000 * ((a.getD i 0 + b.getD i 0 + c) / 10000)=a.getD i 0 + b.getD i 0 + c:=Int.emod_add_mul_ediv _ _
      generalize (a.getD i 0 + b.getD i 0 + c) % 10000=s at *
      generalize (a.getD i 0 + b.getD i 0 + c) / 10000=q at *
      rw [D_int] at *
      generalize (10000:Int) ^ i=p at *
      have e4:p * (s + 10000 * q)=p * (a.getD i 0 + b.getD i 0 + c):=by rw [e3]
      grind
    refine Ev.unroll ?_
    simp only [chattelref01_Add.l0]
    by_cases h1:i < a.length
    · exact Ev.pos (by omega) go
    · refine Ev.neg (by omega) ?_
      by_cases h2:i < b.length
      · exact Ev.pos (by omega) go
      · refine Ev.neg (by omega) ?_
        by_cases h3:c > 0
        · rw [decide_eq_true h3];exact go
        · rw [decide_eq_false h3]
          exact fin i (by omega) (by omega) (by omega) x c h (by have:=h.c0;omega)
theorem RAdd_ev (a b:Nat) (la:(dig a).length < 17592186044415) (lb:(dig b).length < 17592186044415):Ev (fun k=>chattelref01_Add.f k (dig a) (dig b)) (dig (a + b)):=by
  unfold chattelref01_Add.f
  have:=RAdd_l0 (dig a) (dig b) (dig_wf a) (dig_wf b) (max (dig a).length (dig b).length) (by omega) (by omega) _ 0 (Nat.zero_add _) [] 0 ⟨wf_nil _,rfl,by omega,rfl⟩
  rw [dig_v,dig_v,show ((a:Int) + (b:Int)).toNat=a + b by omega] at this
  exact this
structure RSubInv (a b x:List Int) (c:Int) (i:Nat):Prop where
  w:wfD x
  len:x.length=i
  c0:0≤c∧c≤1
  v:vD x - c * ((10000:Nat):Int) ^ i=vD (a.take i) - vD (b.take i)
theorem RSub_l0 (a b:List Int) (ha:wfD a) (hb:wfD b) (hm:a.length < 17592186044415) (hlen:b.length≤a.length) (hle:vD b≤vD a) :
    ∀ d i:Nat,i + d=a.length→∀ x c,RSubInv a b x c i→Ev (fun k=>chattelref01_Sub.l0 k a b x c (i:Int)) (dig (vD a - vD b).toNat):=by
  intro d
  induction d with
  | zero =>
    intro i hi x c h
    have hi':i=a.length:=by omega
    subst hi'
    refine Ev.unroll ?_
    simp only [chattelref01_Sub.l0]
    refine Ev.neg (by omega) ?_
    have hv:=h.v
    rw [show vD (a.take a.length)=vD a from vl_take_ge _ _ _ (by omega),show vD (b.take a.length)=vD b from vl_take_ge _ _ _ (by omega)] at hv
    have hc:c=0:=by
      have h1:=vl_lt D_pos h.w
      rw [h.len] at h1
      rcases Int.le_iff_lt_or_eq.1 h.c0.1 with h8|h8
      · have h9:c=1:=by have:=h.c0.2;omega
        rw [h9] at hv
        simp only [vD] at hv hle
        omega
      · exact h8.symm
    rw [hc,Int.zero_mul,Int.sub_zero] at hv
    rw [← hv]
    exact Ev.bind (f:=fun _ t=>some t) (Trim_ev x h.w (by rw [h.len];omega)) (Ev.now _)
  | succ d ih =>
    intro i hi x c h
    refine Ev.unroll ?_
    simp only [chattelref01_Sub.l0]
    have wa:=wf_getD D_pos ha i
    have wb:=wf_getD D_pos hb i
    rw [D_int] at wa wb
    have hc:=h.c0
    have e1:wrap64 ((i:Int) + 1)=((i + 1:Nat):Int):=by rw [wrap_id (by omega)];omega
    have e2:wrap64 (wrap64 (a.getD i 0 - b.getD i 0) - c)=a.getD i 0 - b.getD i 0 - c:=by rw [wrap_id (x:=a.getD i 0 - b.getD i 0) (by omega),wrap_id (by omega)]
    simp only [at_eq,Option.bind_some,e1,rd_nat,e2]
    refine Ev.pos (by omega) (Ev.pos (by omega) ?_)
    have hv:=h.v
    have stp : ∀ (s q:Int),0≤s∧s < 10000→0≤q∧q≤1→s - 10000 * q=a.getD i 0 - b.getD i 0 - c→Ev (fun k=>chattelref01_Sub.l0 k a b (x ++ [s]) q ((i + 1:Nat):Int)) (dig (vD a - vD b).toNat):=by
      intro s q hs hq e3
      refine ih (i + 1) (by omega) _ _ ⟨wf_append h.w (wf_cons.2 ⟨by rw [D_int];exact hs,wf_nil _⟩),by rw [List.length_append,h.len];rfl,hq,?_⟩
      show vl _ _ - _=vl _ _ - vl _ _
      rw [vl_append,h.len,vl_take_succ,vl_take_succ,Int.pow_succ]
      simp only [vD,vl] at hv ⊢
      rw [D_int] at *
      generalize (10000:Int) ^ i=p at *
      have e4:p * (s - 10000 * q)=p * (a.getD i 0 - b.getD i 0 - c):=by rw [e3]
      grind
    by_cases h1:a.getD i 0 - b.getD i 0 - c < 0
    · refine Ev.pos h1 (Ev.pos (by rw [h.len];omega) ?_)
      rw [wrap_id (x:=a.getD i 0 - b.getD i 0 - c + 10000) (by omega)]
      exact stp _ 1 (by omega) (by omega) (by omega)
    · refine Ev.neg h1 (Ev.pos (by rw [h.len];omega) ?_)
      exact stp _ 0 (by omega) (by omega) (by omega)
theorem RSub_ev (a b:Nat) (hle:b≤a) (la:(dig a).length < 17592186044415):Ev (fun k=>chattelref01_Sub.f k (dig a) (dig b)) (dig (a - b)):=by
  unfold chattelref01_Sub.f
  have hlen:(dig b).length≤(dig a).length:=by
    rcases Nat.lt_or_ge (dig a).length (dig b).length with h1|h1
    · have:=dlen_lt h1;omega
    · exact h1
  have:=RSub_l0 (dig a) (dig b) (dig_wf a) (dig_wf b) la hlen (by rw [dig_v,dig_v];omega) _ 0 (Nat.zero_add _) [] 0 ⟨wf_nil _,rfl,by omega,rfl⟩
  rw [dig_v,dig_v,show ((a:Int) - (b:Int)).toNat=a - b by omega] at this
  exact this
theorem RCmp_l0 (a b:List Int) (ha:wfD a) (hb:wfD b) (hl:a.length=b.length) (hm:a.length < 4611686018427387904) : ∀ n:Nat,n≤a.length →
    (vD (a.take n) < vD (b.take n) ↔ vD a < vD b)→(vD (a.take n)=vD (b.take n) ↔ vD a=vD b)→∀ k,n < k→chattelref01_Cmp.l0 k a b ((n:Int) - 1)=some (if vD a < vD b then -1 else if vD a=vD b then 0 else 1):=by
  intro n
  induction n with
  | zero =>
    intro hn h1 h2 k hk
    obtain ⟨k,rfl⟩ : ∃ m,k=m + 1:=⟨k - 1,by omega⟩
    simp only [chattelref01_Cmp.l0]
    rw [if_neg (by omega)]
    have h3:vD a=vD b:=h2.1 rfl
    rw [if_neg (by omega),if_pos h3]
  | succ n ih =>
    intro hn h1 h2 k hk
    obtain ⟨k,rfl⟩ : ∃ m,k=m + 1:=⟨k - 1,by omega⟩
    have e1:((n + 1:Nat):Int) - 1=(n:Int):=by omega
    have e2:wrap64 ((n:Int) - 1)=(n:Int) - 1:=wrap_id (by omega)
    simp only [chattelref01_Cmp.l0,e1,e2,rd_nat]
    rw [if_pos (by omega),if_pos (by omega),if_pos (by omega),if_pos (by omega)]
    obtain ⟨s1,s2,s3⟩:=sg_step D_pos ha hb n h1 h2 (by omega) (by omega)
    by_cases c1:a.getD n 0 < b.getD n 0
    · have:=s1 c1
      rw [if_pos c1,if_pos this]
    · by_cases c2:a.getD n 0=b.getD n 0
      · rw [if_neg c1,if_neg (by omega)]
        exact ih (by omega) (s3 c2).1 (s3 c2).2 k (by omega)
      · have:=s2 (by omega)
        simp only [vD]
        rw [if_neg c1,if_pos (by omega),if_neg (by omega),if_neg (by omega)]
theorem RCmp_ev (a b:Nat) (ha:(dig a).length < 4611686018427387904) (hb:(dig b).length < 4611686018427387904):Ev (fun k=>chattelref01_Cmp.f k (dig a) (dig b)) (sg a b):=by
  unfold chattelref01_Cmp.f
  rcases Nat.lt_trichotomy (dig a).length (dig b).length with h|h|h
  · have:=dlen_lt h
    refine Ev.neg (by omega) (Ev.pos (by omega) (Ev.const ?_))
    unfold sg;rw [if_pos this]
  · refine Ev.pos (by omega) (Ev.lt (dig a).length (fun k hk=>?_))
    rw [wrap_id (by omega)]
    rw [RCmp_l0 (dig a) (dig b) (dig_wf a) (dig_wf b) h ha (dig a).length (Nat.le_refl _) (by rw [List.take_of_length_le (Nat.le_refl _),List.take_of_length_le (by omega)]) (by rw [List.take_of_length_le (Nat.le_refl _),List.take_of_length_le (by omega)]) k hk]
    rw [dig_v,dig_v]
    unfold sg
    congr 1
    by_cases h1:a < b
    · rw [if_pos h1,if_pos (by omega)]
    · rw [if_neg h1,if_neg (by omega)]
      by_cases h2:a=b
      · rw [if_pos h2,if_pos (by omega)]
      · rw [if_neg h2,if_neg (by omega)]
  · have:=dlen_lt h
    refine Ev.neg (by omega) (Ev.neg (by omega) (Ev.const ?_))
    unfold sg;rw [if_neg (by omega),if_neg (by omega)]
theorem Small_l0 (n:Nat):n < 9223372036854775808→∀ x:List Int,x.length + (dig n).length < 17592186044416→Ev (fun k=>chattelref01_Small.l0 k (n:Int) x) (x ++ dig n):=by
  induction n using Nat.strongRecOn with
  | _ n ih =>
    intro hn x hx
    refine Ev.unroll ?_
    simp only [chattelref01_Small.l0]
    by_cases h0:n=0
    · subst h0
      refine Ev.neg (by omega) (Ev.const ?_)
      rw [dig_zero,List.append_nil]
    · refine Ev.pos (by omega) ?_
      have e0:dig n=((n % 10000:Nat):Int) :: dig (n / 10000):=dg_pos D2 h0
      rw [e0,List.length_cons] at hx
      refine Ev.pos (by omega) ?_
      rw [tdiv_pos (by omega),tmod_pos (by omega),wrap_id (by omega),show (n:Int) / 10000=((n / 10000:Nat):Int) by omega,show (n:Int) % 10000=((n % 10000:Nat):Int) by omega]
      have:=ih (n / 10000) (by omega) (by omega) (x ++ [((n % 10000:Nat):Int)]) (by rw [List.length_append,List.length_singleton];omega)
      rw [e0]
      rw [List.append_assoc,List.singleton_append] at this
      exact this
theorem Small_ev (n:Nat) (hn:n < 9223372036854775808):Ev (fun k=>chattelref01_Small.f k (n:Int)) (dig n):=by
  unfold chattelref01_Small.f
  have hl:(dig n).length≤5:=dig_len_le (by omega)
  have:=Small_l0 n hn [] (by simp;omega)
  rw [List.nil_append] at this
  exact this
structure RMulInv (a b x:List Int) (i j:Nat) (c:Int):Prop where
  w:wfD x
  len:x.length=a.length + b.length + 1
  c0:0≤c∧c≤9999
  v:vD x + c * ((10000:Nat):Int) ^ (i + j)=vD (a.take i) * vD b + a.getD i 0 * ((10000:Nat):Int) ^ i * vD (b.take j)
theorem RMul_step {x y c l:Int} (hx:0≤x∧x < 10000) (hy:0≤y∧y < 10000) (hc:0≤c∧c≤9999) (hl:0≤l∧l < 10000):0≤x * y∧x * y≤99980001:=by
  refine ⟨Int.mul_nonneg hx.1 hy.1,?_⟩
  have h1:x * y≤9999 * y:=Int.mul_le_mul_of_nonneg_right (by omega) hy.1
  omega
theorem RMul_num {x y c l:Int} (hx:0≤x∧x < 10000) (hy:0≤y∧y < 10000) (hc:0≤c∧c≤9999) (hl:0≤l∧l < 10000) :
    wrap64 (wrap64 (l + wrap64 (x * y)) + c)=l + x * y + c∧Int.tmod (l + x * y + c) 10000=(l + x * y + c) % 10000∧wrap64 (Int.tdiv (l + x * y + c) 10000)=(l + x * y + c) / 10000 ∧
    (0≤(l + x * y + c) % 10000∧(l + x * y + c) % 10000 < 10000)∧(0≤(l + x * y + c) / 10000∧(l + x * y + c) / 10000≤9999):=by
  obtain ⟨m1,m2⟩:=RMul_step hx hy hc hl
  generalize x * y=m at *
  have e1:wrap64 m=m:=wrap_id (by omega)
  have e2:wrap64 (l + m)=l + m:=wrap_id (by omega)
  have e3:wrap64 (l + m + c)=l + m + c:=wrap_id (by omega)
  rw [e1,e2,e3,tdiv_pos (by omega),tmod_pos (by omega)]
  exact ⟨rfl,rfl,wrap_id (by omega),by omega,by omega⟩
theorem RMul_val {p r x c X Y A B l s q:Int} (hv:X + c * (p * r)=A + Y) (e3:s + 10000 * q=l + x * B + c):X + p * r * (s - l) + q * (p * r * 10000)=A + (Y + x * p * (r * B)):=by
  have e4:p * r * (s + 10000 * q)=p * r * (l + x * B + c):=by rw [e3]
  grind
theorem RMul_put (a b:List Int) (ha:wfD a) (hb:wfD b) (hm:a.length + b.length < 2199023255552) (i j:Nat) (hi:i < a.length) (hj:j≤b.length) (x:List Int) (c:Int) (h:RMulInv a b x i j c) (r:List Int)
    (k1 : ∀ x c,RMulInv a b x i (j + 1) c→Ev (fun k=>chattelref01_Mul.l1 k a b x (i:Int) c ((j + 1:Nat):Int)) r) :
    Ev (fun k=>(chattelref01_at.f b (j:Int)).bind fun t240=>(if 0≤(wrap64 ((i:Int) + (j:Int))) then (if (wrap64 ((i:Int) + (j:Int))) < (x.length:Int) then (if 0≤(i:Int) then (if (i:Int) < (a.length:Int) then (chattelref01_Mul.l1 k a b (x.set ((wrap64 ((i:Int) + (j:Int))):Int).toNat (Int.tmod (wrap64 ((wrap64 ((rd x (wrap64 ((i:Int) + (j:Int)))) + (wrap64 ((rd a (i:Int)) * t240)))) + c)) 10000)) (i:Int) (wrap64 (Int.tdiv (wrap64 ((wrap64 ((rd x (wrap64 ((i:Int) + (j:Int)))) + (wrap64 ((rd a (i:Int)) * t240)))) + c)) 10000)) (wrap64 ((j:Int) + 1))) else (none)) else (none)) else (none)) else (none))) r:=by
  have hlen:=h.len
  have q1:(0:Int)≤((i + j:Nat):Int):=by omega
  have q2:((i + j:Nat):Int) < (x.length:Int):=by have:=h.len;omega
  have q3:(0:Int)≤(i:Int):=by omega
  have q4:(i:Int) < (a.length:Int):=by omega
  have q5:i + j < x.length:=by omega
  have e1:wrap64 ((i:Int) + (j:Int))=((i + j:Nat):Int):=by rw [wrap_id (by omega)];omega
  have e2:wrap64 ((j:Int) + 1)=((j + 1:Nat):Int):=by rw [wrap_id (by omega)];omega
  have wa:=wf_getD D_pos ha i
  have wb:=wf_getD D_pos hb j
  have wx:=wf_getD D_pos h.w (i + j)
  rw [D_int] at wa wb wx
  obtain ⟨n1,n2,n3,n4,n5⟩:=RMul_num wa wb h.c0 wx
  simp only [at_eq,Option.bind_some,e1,e2,rd_nat,Int.toNat_natCast]
  rw [n1,n2,n3]
  refine Ev.pos q1 (Ev.pos q2 (Ev.pos q3 (Ev.pos q4 ?_)))
  refine k1 _ _ ⟨wf_set h.w _ (by rw [D_int];exact n4),by rw [List.length_set,h.len],n5,?_⟩
  have hv:=h.v
  show vl _ _ + _=_ * _ + _ * vl _ _
  rw [vl_set _ _ _ _ q5,vl_take_succ,show i + (j + 1)=(i + j) + 1 from rfl,Int.pow_succ]
  have hp:((10000:Nat):Int) ^ (i + j)=((10000:Nat):Int) ^ i * ((10000:Nat):Int) ^ j:=Int.pow_add _ _ _
  simp only [vD] at hv ⊢
  rw [hp] at hv ⊢
  rw [Int.mul_add (a.getD i 0 * _)]
  exact RMul_val hv (Int.emod_add_mul_ediv _ _)
theorem RMul_out (a b:List Int) (hm:a.length + b.length < 2199023255552) (i j:Nat) (hi:i < a.length) (r:List Int) (h1:b.length≤j) (x:List Int) (h:RMulInv a b x i j 0)
    (ih : ∀ x,RMulInv a b x (i + 1) 0 0→Ev (fun k=>chattelref01_Mul.l0 k a b x ((i + 1:Nat):Int)) r):Ev (fun k=>chattelref01_Mul.l1 k a b x (i:Int) 0 (j:Int)) r:=by
  refine Ev.unroll ?_
  simp only [chattelref01_Mul.l1]
  refine Ev.neg (by omega) (Ev.neg (by omega) ?_)
  have e1:wrap64 ((i:Int) + 1)=((i + 1:Nat):Int):=by rw [wrap_id (by omega)];omega
  rw [e1]
  refine ih x ⟨h.w,h.len,by omega,?_⟩
  have hv:=h.v
  rw [show vD (b.take j)=vD b from vl_take_ge _ _ _ h1,Int.zero_mul,Int.add_zero] at hv
  show vl _ _ + 0 * _=vl _ _ * _ + _ * vl _ (b.take 0)
  rw [vl_take_succ,List.take_zero,show vl ((10000:Nat):Int) ([]:List Int)=0 from rfl,Int.zero_mul,Int.mul_zero,Int.add_zero,Int.add_zero,Int.add_mul]
  simp only [vD] at hv
  rw [hv,Int.mul_comm (a.getD i 0)]
theorem RMul_end (a b:List Int) (ha:wfD a) (hb:wfD b) (i:Nat) (hi:i < a.length) (x:List Int) (c:Int) (h:RMulInv a b x i (b.length + 1) c):c=0:=by
  have wa:=wf_getD D_pos ha i
  rw [D_int] at wa
  have hv:=h.v
  have hc:=h.c0
  rw [show vD (b.take (b.length + 1))=vD b from vl_take_ge _ _ _ (by omega)] at hv
  have h1:=vl_lt D_pos hb
  have h2:=vl_lt D_pos (wf_take ha i)
  have h3:=vl_nonneg D_pos h.w
  have h4:=vl_nonneg D_pos hb
  have h5:=vl_nonneg D_pos (wf_take ha i)
  rw [List.length_take,Nat.min_eq_left (by omega)] at h2
  have hp:((10000:Nat):Int) ^ (i + (b.length + 1))=((10000:Nat):Int) ^ i * (((10000:Nat):Int) ^ b.length * 10000):=by
    rw [Int.pow_add,Int.pow_succ];rfl
  rcases Int.le_iff_lt_or_eq.1 hc.1 with h8|h8
  · exfalso
    clear h
    rw [hp] at hv
    simp only [vD] at hv
    generalize ((10000:Nat):Int) ^ i=p at *
    generalize ((10000:Nat):Int) ^ b.length=r at *
    generalize vl ((10000:Nat):Int) b=u at *
    generalize vl ((10000:Nat):Int) (a.take i)=t at *
    generalize vl ((10000:Nat):Int) x=z at *
    generalize a.getD i 0=y at *
    clear hp
    have q1:t * u≤p * u:=Int.mul_le_mul_of_nonneg_right (by omega) h4
    have q2:y * p * u≤9999 * p * u:=Int.mul_le_mul_of_nonneg_right (Int.mul_le_mul_of_nonneg_right (by omega) (by omega)) h4
    have q3:p * u + p≤p * r:=by
      have:=Int.mul_le_mul_of_nonneg_left (show u + 1≤r by omega) (show 0≤p by omega)
      rwa [Int.mul_add,Int.mul_one] at this
    have q4:1 * (p * (r * 10000))≤c * (p * (r * 10000)):=Int.mul_le_mul_of_nonneg_right (by omega) (Int.mul_nonneg (by omega) (by omega))
    have q5:p * (r * 10000)=10000 * (p * r):=by rw [← Int.mul_assoc,Int.mul_comm]
    have q6:9999 * p * u=9999 * (p * u):=Int.mul_assoc _ _ _
    rw [q5] at hv q4
    rw [q6] at q2
    generalize c * (10000 * (p * r))=A1 at *
    generalize p * r=A2 at *
    generalize p * u=A3 at *
    generalize t * u=A4 at *
    generalize y * p * u=A5 at *
    omega
  · exact h8.symm
theorem RMul_loops (a b:List Int) (ha:wfD a) (hb:wfD b) (hm:a.length + b.length < 2199023255552) :
    ∀ e:Nat,(∀ i:Nat,i + e=a.length→∀ x,RMulInv a b x i 0 0→Ev (fun k=>chattelref01_Mul.l0 k a b x (i:Int)) (dig (vD a * vD b).toNat)):=by
  intro e
  induction e with
  | zero =>
    intro i hi x h
    have hi':i=a.length:=by omega
    subst hi'
    refine Ev.unroll ?_
    simp only [chattelref01_Mul.l0]
    refine Ev.neg (by omega) ?_
    have hv:=h.v
    rw [show vD (a.take a.length)=vD a from vl_take_ge _ _ _ (by omega),show vD (b.take 0)=0 from rfl,Int.mul_zero,Int.zero_mul,Int.add_zero,Int.add_zero] at hv
    rw [← hv]
    exact Ev.bind (f:=fun _ t=>some t) (Trim_ev x h.w (by rw [h.len];omega)) (Ev.now _)
  | succ e ih =>
    intro i hi x h
    have hi2:i < a.length:=by omega
    have ih':=ih (i + 1) (by omega)
    clear ih
    generalize dig (vD a * vD b).toNat=r at *
    have inner : ∀ d j:Nat,j + d=b.length + 1→∀ x c,RMulInv a b x i j c→Ev (fun k=>chattelref01_Mul.l1 k a b x (i:Int) c (j:Int)) r:=by
      intro d
      induction d with
      | zero =>
        intro j hj x c h
        have hj':j=b.length + 1:=by omega
        subst hj'
        have hc:=RMul_end a b ha hb i hi2 x c h
        subst hc
        exact RMul_out a b hm i _ hi2 r (by omega) x h ih'
      | succ d ihd =>
        intro j hj x c h
        have next:=fun x c h=>ihd (j + 1) (by omega) x c h
        clear ihd
        by_cases h1:j < b.length
        · refine Ev.unroll ?_
          simp only [chattelref01_Mul.l1]
          exact Ev.pos (by omega) (RMul_put a b ha hb hm i j hi2 (by omega) x c h r next)
        · by_cases h2:c > 0
          · refine Ev.unroll ?_
            simp only [chattelref01_Mul.l1]
            exact Ev.neg (by omega) (Ev.pos h2 (RMul_put a b ha hb hm i j hi2 (by omega) x c h r next))
          · have hc:c=0:=by have:=h.c0;omega
            subst hc
            exact RMul_out a b hm i j hi2 r (by omega) x h ih'
    refine Ev.unroll ?_
    simp only [chattelref01_Mul.l0]
    refine Ev.pos (by omega) ?_
    exact inner (b.length + 1) 0 (by omega) x 0 h
theorem RMul_ev (a b:Nat) (la:(dig a).length < 1099511627775) (lb:(dig b).length < 1099511627775):Ev (fun k=>chattelref01_Mul.f k (dig a) (dig b)) (dig (a * b)):=by
  unfold chattelref01_Mul.f
  have e1:wrap64 (wrap64 (((dig a).length:Int) + ((dig b).length:Int)) + 1)=(((dig a).length + (dig b).length + 1:Nat):Int):=by
    rw [wrap_id (x:=((dig a).length:Int) + ((dig b).length:Int)) (by omega),wrap_id (by omega)];omega
  simp only [e1,Int.toNat_natCast]
  refine Ev.pos (by omega) (Ev.pos (by omega) ?_)
  have:=RMul_loops (dig a) (dig b) (dig_wf a) (dig_wf b) (by omega) _ 0 (Nat.zero_add _) (List.replicate ((dig a).length + (dig b).length + 1) 0) ⟨wf_replicate D_pos _,List.length_replicate,by omega,by
    show vl _ _ + 0 * _=vl _ ((dig a).take 0) * _ + _ * vl _ ((dig b).take 0)
    rw [vl_replicate,List.take_zero,List.take_zero,Int.zero_mul,show vl ((10000:Nat):Int) ([]:List Int)=0 from rfl,Int.zero_mul,Int.mul_zero]⟩
  rw [dig_v,dig_v,show ((a:Int) * (b:Int)).toNat=a * b by rw [← Int.natCast_mul,Int.toNat_natCast]] at this
  exact this
theorem dby_num {H d x r:Nat} (hd:0 < d) (hr:r=H % d):(H * 10000 + x) / d=H / d * 10000 + (r * 10000 + x) / d∧(H * 10000 + x) % d=(r * 10000 + x) % d:=by
  have h:=Nat.div_add_mod H d
  rw [← hr] at h
  have e:H * 10000 + x=d * (H / d * 10000) + (r * 10000 + x):=by
    have:d * (H / d * 10000)=d * (H / d) * 10000:=by rw [Nat.mul_assoc]
    omega
  rw [e,Nat.mul_add_div hd,Nat.mul_add_mod]
  exact ⟨rfl,rfl⟩
theorem dm_l1 (A q:List Int) (b r i:Nat) (hb:0 < b) (lb:(dig b).length < 1099511627700) (lr:(dig r).length < 1099511627700) {R:List Int×List Int} (hi:i < q.length) (hm:i < 4611686018427387904)
    (fin:Ev (fun k=>chattelref01_DivMod.l0 k A (dig b) (q.set i ((r / b:Nat):Int)) (dig (r % b)) ((i:Int) - 1)) R) (n:Nat) :
    ∀ low high:Nat,high - low≤n→low≤high→high≤9999→b * low≤r→r < b * (high + 1)→Ev (fun k=>chattelref01_DivMod.l1 k A (dig b) q (dig r) (i:Int) (low:Int) (high:Int)) R:=by
  induction n with
  | zero =>
    intro low high hn hlh hh h1 h2
    have he:high=low:=by omega
    subst he
    have hq:r / b=high:=Nat.div_eq_of_lt_le (by rw [Nat.mul_comm];exact h1) (by rw [Nat.mul_comm];exact h2)
    have hdm:=Nat.div_add_mod r b
    rw [hq] at hdm
    have ls:(dig high).length≤1:=dig_len_le (by omega)
    have l2:=dlen_mul b high
    have hsub:r - b * high=r % b:=by omega
    have f1:(i:Int) < (q.length:Int):=Int.ofNat_lt.2 hi
    have i1:wrap64 ((i:Int) - 1)=(i:Int) - 1:=wrap_id (by omega)
    refine Ev.unroll ?_
    simp only [chattelref01_DivMod.l1,Int.toNat_natCast,i1]
    refine Ev.neg (Int.lt_irrefl _) (Ev.pos (Int.natCast_nonneg _) (Ev.pos f1 ?_))
    refine Ev.bind (Small_ev high (by omega)) ?_
    refine Ev.bind (RMul_ev b high (by omega) (by omega)) ?_
    refine Ev.bind (RSub_ev r (b * high) h1 (by omega)) ?_
    rw [hsub,← hq]
    exact fin
  | succ n ih =>
    intro low high hn hlh hh h1 h2
    by_cases he:low=high
    · exact ih low high (by omega) hlh hh h1 h2
    · have hmid:wrap64 (Int.tdiv (wrap64 (wrap64 ((low:Int) + (high:Int)) + 1)) 2)=(((low + high + 1) / 2:Nat):Int):=by
        rw [wrap_id (x:=(low:Int) + (high:Int)) (by omega),wrap_id (x:=(low:Int) + (high:Int) + 1) (by omega),tdiv_pos (by omega),wrap_id (by omega)]
        omega
      obtain ⟨m,hm2⟩ : ∃ m,m=(low + high + 1) / 2:=⟨_,rfl⟩
      have m1:low < m:=by omega
      have m2:m≤high:=by omega
      have f1:(low:Int) < (high:Int):=by omega
      have ls:(dig m).length≤1:=dig_len_le (by omega)
      have l2:=dlen_mul b m
      have hm1:wrap64 ((m:Int) - 1)=((m - 1:Nat):Int):=by rw [wrap_id (by omega)];omega
      have g1:high - m≤n:=by omega
      have g2:m - 1 - low≤n:=by omega
      have g3:low≤m - 1:=by omega
      have g4:m - 1≤9999:=by omega
      have g5:m - 1 + 1=m:=by omega
      have g6:m < 9223372036854775808:=by omega
      rw [← hm2] at hmid
      refine Ev.unroll ?_
      simp only [chattelref01_DivMod.l1,hmid,hm1]
      clear hmid hm1 hm2
      refine Ev.pos f1 ?_
      refine Ev.bind (Small_ev m g6) ?_
      refine Ev.bind (RMul_ev b m (by omega) (by omega)) ?_
      refine Ev.bind (RCmp_ev (b * m) r (by omega) (by omega)) ?_
      by_cases hc:b * m≤r
      · refine Ev.pos (by unfold sg;split <;> (try split) <;> omega) ?_
        exact ih m high g1 m2 hh hc h2
      · refine Ev.neg (by unfold sg;rw [if_neg (by omega),if_neg (by omega)];decide) ?_
        exact ih low (m - 1) g2 g3 g4 h1 (by rw [g5];omega)
theorem dig_len_gen (h x T:Nat) (h3:(dig T).length≤2) (h4:(dig x).length≤1):(dig (h * T + x)).length≤(dig h).length + 3:=by
  have a1:=dlen_add (h * T) x
  have a2:=dlen_mul h T
  omega
theorem dig_len_step (h x:Nat) (hx:x < 10000):(dig (h * 10000 + x)).length≤(dig h).length + 3:=dig_len_gen h x 10000 (dig_len_le (by decide)) (dig_len_le (by omega))
theorem dm_l0 (A:List Int) (hA:wfD A) (hm:A.length < 1099511627000) (b:Nat) (hb:0 < b) (lb:(dig b).length < 1099511627000) : ∀ i:Nat,i≤A.length→∀ q:List Int,wfD q→q.length=A.length→∀ H:Nat,vD (A.drop i)=H→vD (q.drop i)=((H / b:Nat):Int) →
    Ev (fun k=>chattelref01_DivMod.l0 k A (dig b) q (dig (H % b)) ((i:Int) - 1)) (dig ((vD A).toNat / b),dig ((vD A).toNat % b)):=by
  intro i
  induction i with
  | zero =>
    intro _ q hq hql H hH hv
    rw [List.drop_zero] at hH hv
    refine Ev.unroll ?_
    simp only [chattelref01_DivMod.l0]
    refine Ev.neg (by omega) ?_
    have:=Trim_ev q hq (by omega)
    rw [hv,Int.toNat_natCast] at this
    refine Ev.bind this (Ev.const ?_)
    rw [hH,Int.toNat_natCast]
  | succ i ih =>
    intro hi q hq hql H hH hv
    have wl:=wf_getD D_pos hA i
    rw [D_int] at wl
    obtain ⟨x,hx⟩:=Int.eq_ofNat_of_zero_le wl.1
    rw [hx] at wl
    have hr:=Nat.mod_lt H hb
    obtain ⟨n1,n2⟩:=dby_num (H:=H) (x:=x) hb rfl
    have hlt:(H % b * 10000 + x) / b < 10000:=by
      refine (Nat.div_lt_iff_lt_mul hb).2 ?_
      have:(H % b + 1) * 10000≤b * 10000:=Nat.mul_le_mul_right _ hr
      omega
    have hH':vD (A.drop i)=((H * 10000 + x:Nat):Int):=by
      show vl _ _=_
      rw [vl_drop _ _ _ (by omega),hx]
      simp only [vD] at hH
      rw [hH,D_int]
      omega
    have hv':vD ((q.set i ((H % b * 10000 + x) / b:Nat)).drop i)=(((H * 10000 + x) / b:Nat):Int):=by
      show vl _ _=_
      rw [vl_drop _ _ _ (by rw [List.length_set];omega),getD_set_self _ _ _ _ (by omega),drop_set_self]
      simp only [vD] at hv
      rw [hv,n1,D_int]
      omega
    have hnext:=ih (by omega) (q.set i ((H % b * 10000 + x) / b:Nat)) (wf_set hq _ ⟨Int.natCast_nonneg _,Int.ofNat_lt.2 hlt⟩) (by rw [List.length_set,hql]) (H * 10000 + x) hH' hv'
    rw [n2] at hnext
    have e0:((i + 1:Nat):Int) - 1=(i:Int):=by omega
    have l1:(dig (H % b)).length≤(dig b).length:=dlen_mono (Nat.le_of_lt hr)
    have wr:wfD ([(x:Int)] ++ dig (H % b)):=wf_append (fun y hy=>by rw [List.mem_singleton.1 hy];exact ⟨Int.natCast_nonneg _,by rw [D_int];exact wl.2⟩) (dig_wf _)
    have ht:=Trim_ev ([(x:Int)] ++ dig (H % b)) wr (by simp;omega)
    have hvt:(vD ([(x:Int)] ++ dig (H % b))).toNat=H % b * 10000 + x:=by
      have h1:=dig_v (H % b)
      show (vl _ _).toNat=_
      rw [vl_append]
      simp only [vD] at h1
      rw [h1,show vl ((10000:Nat):Int) [(x:Int)]=(x:Int) from by rw [vl,vl,Int.mul_zero,Int.add_zero],show ([(x:Int)]:List Int).length=1 from rfl,Int.pow_one,D_int]
      clear h1 ht wr
      omega
    rw [hvt] at ht
    have l3:(dig (H % b * 10000 + x)).length≤(dig b).length + 3:=Nat.le_trans (dig_len_step (H % b) x (by omega)) (Nat.add_le_add_right l1 3)
    have hub:H % b * 10000 + x < b * (9999 + 1):=by
      have:(H % b + 1) * 10000≤b * 10000:=Nat.mul_le_mul_right _ hr
      omega
    have f1:(i:Int) < (A.length:Int):=by omega
    have f2:([(x:Int)]:List Int).length + (dig (H % b)).length < 17592186044416:=by simp;omega
    refine Ev.unroll ?_
    simp only [chattelref01_DivMod.l0,e0,rd_nat,hx]
    refine Ev.pos (Int.natCast_nonneg _) (Ev.pos (Int.natCast_nonneg _) (Ev.pos f1 ?_))
    refine Ev.bindc rfl (Ev.pos f2 ?_)
    refine Ev.bind ht ?_
    exact dm_l1 A q b (H % b * 10000 + x) i hb (by omega) (by omega) (by omega) (by omega) hnext 9999 0 9999 (by omega) (by omega) (by omega) (by omega) hub
theorem divmod_ev (a b:Nat) (hb:0 < b) (la:(dig a).length < 1099511627000) (lb:(dig b).length < 1099511627000):Ev (fun k=>chattelref01_DivMod.f k (dig a) (dig b)) (dig (a / b),dig (a % b)):=by
  have h0:vD ((dig a).drop (dig a).length)=((0:Nat):Int):=by rw [List.drop_length];rfl
  have h1:vD ((List.replicate (dig a).length (0:Int)).drop (dig a).length)=((0 / b:Nat):Int):=by
    rw [List.drop_of_length_le (by simp),Nat.zero_div]
    rfl
  have:=dm_l0 (dig a) (dig_wf a) la b hb lb (dig a).length (Nat.le_refl _) (List.replicate (dig a).length 0) (wf_replicate D_pos _) List.length_replicate 0 h0 h1
  rw [dig_v,Int.toNat_natCast,Nat.zero_mod,dig_zero] at this
  unfold chattelref01_DivMod.f
  rw [Int.toNat_natCast,wrap_id (x:=((dig a).length:Int) - 1) (by omega)]
  exact Ev.pos (Int.natCast_nonneg _) (Ev.pos (by omega) this)
theorem dgcd_ev (b:Nat) : ∀ a:Nat,(dig a).length < 1099511627000→(dig b).length < 1099511627000→Ev (fun k=>chattelref02_Gcd.f k (dig a) (dig b)) (dig (Nat.gcd a b)):=by
  unfold chattelref02_Gcd.f
  induction b using Nat.strongRecOn with
  | _ b ih =>
    intro a la lb
    refine Ev.unroll ?_
    simp only [chattelref02_Gcd.l0]
    by_cases h:b=0
    · subst h
      rw [dig_zero]
      refine Ev.neg (by simp) (Ev.const ?_)
      rw [Nat.gcd_zero_right]
    · have hl:(dig b).length≠0:=fun h2=>h (dig_nil.1 h2)
      refine Ev.pos (by omega) ?_
      refine Ev.bind (divmod_ev a b (Nat.pos_of_ne_zero h) la lb) ?_
      have hm:=Nat.mod_lt a (Nat.pos_of_ne_zero h)
      have:=ih (a % b) hm b lb (Nat.lt_of_le_of_lt (dlen_mono (Nat.le_of_lt hm)) lb)
      rw [show Nat.gcd a b=Nat.gcd b (a % b) by rw [Nat.gcd_comm a b,Nat.gcd_rec b a,Nat.gcd_comm]]
      exact this
theorem dig_one:([1]:List Int)=dig 1:=by
  unfold dig
  rw [dg_pos D2 (by decide),show 1 % 10000=1 from rfl,show 1 / 10000=0 from rfl,dg_zero]
  rfl
theorem rOf (n:Nat) (b:Bool) {z:Int} (h:sgn b n=z):chattelref04_Of.f (dig n) b=some (dig z.natAbs,decide (z < 0)):=by
  subst h
  rw [sgn_abs,sgn_neg]
  unfold chattelref04_Of.f
  cases b
  · rw [if_neg (by decide),Bool.false_and]
  · rw [if_pos rfl,Bool.true_and]
    congr 2
    rw [decide_eq_decide]
    have:=dig_nil (n:=n)
    omega
theorem sign_dec (z:Int):decide (z.sign < 0)=decide (z < 0):=by
  rw [decide_eq_decide]
  exact Int.sign_neg_iff
theorem rMake (z:Int) (d:Nat) (hd:0 < d) (lz:(dig z.natAbs).length≤100000000) (ld:(dig d).length≤100000000) :
    Ev (fun k=>chattelref05_Make.f k (dig z.natAbs) (decide (z < 0)) (dig d)) (dig (mkRat z d).num.natAbs,decide ((mkRat z d).num < 0),dig (mkRat z d).den):=by
  have hg:0 < Nat.gcd z.natAbs d:=Nat.gcd_pos_of_pos_right _ hd
  have lg:=dlen_mono (Nat.gcd_le_right z.natAbs hd)
  unfold chattelref05_Make.f
  refine Ev.bind (dgcd_ev d z.natAbs (by omega) (by omega)) ?_
  refine Ev.bind (divmod_ev z.natAbs (Nat.gcd z.natAbs d) hg (by omega) (by omega)) ?_
  refine Ev.bind (divmod_ev d (Nat.gcd z.natAbs d) hg (by omega) (by omega)) ?_
  have hm:=mk_num z d hd
  rw [sign_dec] at hm
  refine Ev.bindc (rOf _ _ hm) (Ev.const ?_)
  rw [mk_den z d hd]
theorem fOfN (z:Int) (d:Nat) (hd:0 < d) (lz:(lim z.natAbs).length≤400000000) (ld:(lim d).length≤400000000) :
    Ev (fun k=>frac_Of.f k (lim z.natAbs) (decide (z < 0)) (lim d) false) (lim (mkRat z d).num.natAbs,decide ((mkRat z d).num < 0),lim ((mkRat z d).den - 1),0):=by
  have hs:=wSign (d:Int)
  rw [nat_abs,nat_neg,Int.sign_eq_one_of_pos (by omega)] at hs
  unfold frac_Of.f
  refine Ev.bindc hs (Ev.neg (by decide) (Ev.neg (by decide) ?_))
  refine Ev.bindc (a:=whole_Int_Abs.f (lim d) false) rfl ?_
  exact Ev.bind (fmade z d hd lz ld) (Ev.const rfl)
end Go.Proofs.YtakidmbnkkhojaaGreatM
end

section
namespace Go.Proofs.YtakidmbnkkhojaaGreatM
open Go.RowKit Go.Proofs.YtakidmbnkkhojaaGreat.F Go.Proofs.YtakidmbnkkhojaaGreatW.PrintWords Go.Proofs.YtakidmbnkkhojaaGreatW.PrintLast
set_option linter.unusedVariables false
def rsg (q:Rat):Int:=q.num.sign
theorem mk_sign (z:Int) (d:Nat) (hd:0 < d):rsg (mkRat z d)=z.sign:=by
  have h1:=mk_num z d hd
  have hg:0 < Nat.gcd z.natAbs d:=Nat.gcd_pos_of_pos_right _ hd
  unfold rsg
  rw [← h1]
  unfold sgn
  rcases Int.lt_trichotomy z 0 with h|h|h
  · have hz:0 < z.natAbs / Nat.gcd z.natAbs d:=Nat.div_pos (Nat.gcd_le_left _ (by omega)) hg
    rw [Int.sign_eq_neg_one_of_neg h,decide_eq_true (by decide),if_pos rfl,Int.sign_eq_neg_one_of_neg (by omega)]
  · subst h;simp
  · have hz:0 < z.natAbs / Nat.gcd z.natAbs d:=Nat.div_pos (Nat.gcd_le_left _ (by omega)) hg
    rw [Int.sign_eq_one_of_pos h,decide_eq_false (by decide),if_neg (by decide),Int.sign_eq_one_of_pos (by omega)]
theorem rsg_sub (p q:Rat):(p.num * q.den - q.num * p.den).sign=rsg (p - q):=by
  rw [Rat.sub_def',mk_sign _ _ (Nat.mul_pos (den_pos p) (den_pos q))]
theorem rsg_zero {q:Rat}:rsg q=0 ↔ q=0:=by
  unfold rsg
  rw [Int.sign_eq_zero_iff_zero,Rat.num_eq_zero]
theorem fCmpS {n m:Nat} {p q:Rat} (hp:Sz n p) (hq:Sz m q) (hn:n≤100000000) (hm:m≤100000000) :
    Ev (fun k=>frac_Frac_Cmp.f k (lim p.num.natAbs) (decide (p.num < 0)) (lim (p.den - 1)) (lim q.num.natAbs) (decide (q.num < 0)) (lim (q.den - 1))) (rsg (p - q)):=by
  rw [← rsg_sub];exact fCmp hp hq hn hm
theorem sz_neg {n:Nat} {q:Rat} (h:Sz n q):Sz n (-q):=by
  obtain ⟨h1,h2⟩:=h
  refine ⟨?_,h2⟩
  rw [show (-q).num = -q.num from rfl,Int.natAbs_neg];exact h1
theorem fMul {n m:Nat} {p q:Rat} (hp:Sz n p) (hq:Sz m q) (hn:n≤100000000) (hm:m≤100000000) :
    Ev (fun k=>frac_Frac_Mul.f k (lim p.num.natAbs) (decide (p.num < 0)) (lim (p.den - 1)) (lim q.num.natAbs) (decide (q.num < 0)) (lim (q.den - 1))) (lim (p * q).num.natAbs,decide ((p * q).num < 0),lim ((p * q).den - 1))∧Sz (n + m) (p * q):=by
  have m1:=wlen_mul p.num q.num
  have m4:=len_mul p.den q.den
  obtain ⟨p1,p2⟩:=hp
  obtain ⟨q1,q2⟩:=hq
  have hd:0 < p.den * q.den:=Nat.mul_pos (den_pos p) (den_pos q)
  rw [Rat.mul_def']
  refine ⟨?_,mk_size hd (by omega) (by omega)⟩
  unfold frac_Frac_Mul.f
  refine Ev.bind (wMul p.num q.num (by omega) (by omega)) ?_
  refine Ev.bind (fDen (by omega)) ?_
  refine Ev.bind (fDen (by omega)) ?_
  refine Ev.bind (mul_lim p.den q.den (by omega) (by omega)) ?_
  exact Ev.bind (fmade _ _ hd (by omega) (by omega)) (Ev.const rfl)
theorem divInt_abs (z t:Int) (ht:t≠0):Rat.divInt z t=mkRat (if t < 0 then -z else z) t.natAbs:=by
  cases t with
  | ofNat d=>rw [if_neg (by show ¬ (d:Int) < 0;omega)];rfl
  | negSucc d =>
    rw [if_pos (Int.negSucc_lt_zero d)]
    show Rat.normalize (-z) (d + 1) (Nat.succ_ne_zero d)=mkRat (-z) (d + 1)
    exact Rat.normalize_eq_mkRat (Nat.succ_ne_zero d)
end Go.Proofs.YtakidmbnkkhojaaGreatM
end

section
namespace Go.Proofs.YtakidmbnkkhojaaGreatM
open Go.RowKit Go.Proofs.YtakidmbnkkhojaaGreat.F Go.Proofs.YtakidmbnkkhojaaGreatW.PrintWords Go.Proofs.YtakidmbnkkhojaaGreatW.PrintLast Go.Proofs.YtakidmbnkkhojaaGreatW.PrintMore Go.Proofs.YtakidmbnkkhojaaGreatX
set_option linter.unusedVariables false
set_option linter.unusedSimpArgs false
def dgs (n:Nat):List Int:=if h:n=0 then [] else dgs (n / 10) ++ [48 + ((n % 10:Nat):Int)]
termination_by n
decreasing_by exact Nat.div_lt_self (Nat.pos_of_ne_zero h) (by decide)
def fx:Nat→Nat→List Int
  | 0,_=>[]
  | m + 1,n=>fx m (n / 10) ++ [48 + ((n % 10:Nat):Int)]
theorem dgs_zero:dgs 0 = []:=by rw [dgs,dif_pos rfl]
theorem dgs_pos {n:Nat} (h:n≠0):dgs n=dgs (n / 10) ++ [48 + ((n % 10:Nat):Int)]:=by rw [dgs,dif_neg h]
theorem fx_len (m:Nat) : ∀ n,(fx m n).length=m:=by
  induction m with
  | zero=>intro n;rfl
  | succ m ih=>intro n;simp [fx,ih]
theorem dgs_len {m:Nat} : ∀ {n:Nat},n < 10 ^ m→(dgs n).length≤m:=by
  induction m with
  | zero =>
    intro n h
    obtain rfl:n=0:=by simpa using h
    rw [dgs_zero];exact Nat.le_refl _
  | succ m ih =>
    intro n h
    by_cases hn:n=0
    · subst hn;rw [dgs_zero];exact Nat.zero_le _
    · rw [dgs_pos hn]
      have:=ih (n:=n / 10) (by rw [Nat.div_lt_iff_lt_mul (by decide)];rwa [Nat.pow_succ] at h)
      simp;omega
theorem dgs_fx (m:Nat) : ∀ n,10 ^ m≤n→dgs n=dgs (n / 10 ^ m) ++ fx m (n % 10 ^ m):=by
  induction m with
  | zero=>intro n _;simp [fx]
  | succ m ih =>
    intro n hn
    have h10:0 < 10 ^ m:=Nat.pow_pos (by decide)
    rw [Nat.pow_succ] at hn
    have h0:n≠0:=by omega
    have h1:10 ^ m≤n / 10:=by rw [Nat.le_div_iff_mul_le (by decide)];exact hn
    rw [dgs_pos h0,ih (n / 10) h1,Nat.div_div_eq_div_mul,Nat.pow_succ,Nat.mul_comm 10 (10 ^ m)]
    have e1:n % (10 ^ m * 10) / 10=n / 10 % 10 ^ m:=by rw [Nat.mul_comm,Nat.mod_mul_right_div_self]
    have e2:n % (10 ^ m * 10) % 10=n % 10:=Nat.mod_mul_left_mod _ _ _
    show _=_ ++ (fx m (n % (10 ^ m * 10) / 10) ++ [48 + ((n % (10 ^ m * 10) % 10:Nat):Int)])
    rw [e1,e2,List.append_assoc]
theorem fx_zero (m:Nat):fx m 0=List.replicate m 48:=by
  induction m with
  | zero=>rfl
  | succ m ih=>show fx m (0 / 10) ++ _=_;rw [Nat.zero_div,ih,List.replicate_succ'];rfl
theorem fx_dgs (m:Nat) : ∀ n,n < 10 ^ m→∃ z,fx m n=List.replicate z 48 ++ dgs n:=by
  induction m with
  | zero =>
    intro n h
    obtain rfl:n=0:=by simpa using h
    exact ⟨0,by rw [dgs_zero];rfl⟩
  | succ m ih =>
    intro n h
    by_cases hn:n=0
    · subst hn;exact ⟨m + 1,by rw [dgs_zero,fx_zero,List.append_nil]⟩
    · obtain ⟨z,hz⟩:=ih (n / 10) (by rw [Nat.div_lt_iff_lt_mul (by decide)];rwa [Nat.pow_succ] at h)
      refine ⟨z,?_⟩
      show fx m (n / 10) ++ _=_
      rw [hz,dgs_pos hn,List.append_assoc]
theorem dgs_head (n:Nat) (h:n≠0) : ∃ c l,dgs n=c :: l∧49≤c∧c≤57:=by
  induction n using Nat.strongRecOn with
  | _ n ih =>
    rw [dgs_pos h]
    by_cases h1:n / 10=0
    · rw [h1,dgs_zero]
      exact ⟨_,[],rfl,by omega,by omega⟩
    · obtain ⟨c,l,e,h2,h3⟩:=ih (n / 10) (Nat.div_lt_self (Nat.pos_of_ne_zero h) (by decide)) h1
      exact ⟨c,_,by rw [e];rfl,h2,h3⟩
theorem dgs_ne {n:Nat} (h:n≠0):1≤(dgs n).length:=by
  obtain ⟨c,l,e,_⟩:=dgs_head n h
  rw [e];simp
def text (n:Nat):ByteArray:=strOfNums (if n=0 then [48] else dgs n)
def bts (l:List Int):List UInt8:=l.map fun n=>UInt8.ofNat n.toNat
theorem str_data (l:List Int):(strOfNums l).data.toList=bts l:=rfl
theorem str_app (a b:List Int):strOfNums (a ++ b)=strOfNums a ++ strOfNums b:=by
  apply ByteArray.ext
  simp [strOfNums]
theorem str_size (l:List Int):(strOfNums l).size=l.length:=by simp [strOfNums,ByteArray.size]
theorem dgs_lim {n m:Nat} (h:(lim n).length≤m):(dgs n).length≤20 * m:=by
  refine dgs_len (Nat.lt_of_lt_of_le (lim_lt n) ?_)
  rw [Nat.pow_mul]
  exact Nat.le_trans (Nat.pow_le_pow_left (by decide) _) (Nat.pow_le_pow_right (by decide) h)
theorem text_size {n m:Nat} (h:(lim n).length≤m):(text n).size≤20 * m + 1:=by
  unfold text
  rw [str_size]
  have:=dgs_lim h
  split
  · simp
  · omega
theorem small_fx (m:Nat) (hm:m≤20) : ∀ (j n k:Nat) (acc:List Int),n < 10 ^ j→acc.length + j=m→j < k→digits_small.l0 k (n:Int) (m:Int) acc=some (fx j n ++ acc):=by
  intro j
  induction j with
  | zero =>
    intro n k acc hn ha hk
    obtain ⟨k,rfl⟩ : ∃ i,k=i + 1:=⟨k - 1,by omega⟩
    obtain rfl:n=0:=by simpa using hn
    unfold digits_small.l0
    rw [if_neg (by omega)]
    rfl
  | succ j ih =>
    intro n k acc hn ha hk
    obtain ⟨k,rfl⟩ : ∃ i,k=i + 1:=⟨k - 1,by omega⟩
    unfold digits_small.l0
    rw [if_pos (by omega),if_pos (by omega)]
    have e1:(n:Int) / 10=((n / 10:Nat):Int):=by omega
    have e2:48 + (n:Int) % 10=48 + ((n % 10:Nat):Int):=by omega
    rw [e1,e2,ih (n / 10) k _ (by rw [Nat.div_lt_iff_lt_mul (by decide)];rwa [Nat.pow_succ] at hn) (by simp;omega) (by omega)]
    show _=some ((fx j (n / 10) ++ [48 + ((n % 10:Nat):Int)]) ++ acc)
    rw [List.append_assoc];rfl
theorem small_dgs : ∀ (j n k:Nat) (acc:List Int),n < 10 ^ j→(n≠0∨1≤acc.length)→acc.length + j≤20→j < k→digits_small.l0 k (n:Int) 1 acc=some (dgs n ++ acc):=by
  intro j
  induction j with
  | zero =>
    intro n k acc hn h0 ha hk
    obtain ⟨k,rfl⟩ : ∃ i,k=i + 1:=⟨k - 1,by omega⟩
    obtain rfl:n=0:=by simpa using hn
    unfold digits_small.l0
    rw [if_neg (by omega),dgs_zero]
    rfl
  | succ j ih =>
    intro n k acc hn h0 ha hk
    obtain ⟨k,rfl⟩ : ∃ i,k=i + 1:=⟨k - 1,by omega⟩
    unfold digits_small.l0
    by_cases hz:n=0
    · subst hz
      rw [if_neg (by omega),dgs_zero]
      rfl
    · rw [if_pos (by omega),if_pos (by omega)]
      have e1:(n:Int) / 10=((n / 10:Nat):Int):=by omega
      have e2:48 + (n:Int) % 10=48 + ((n % 10:Nat):Int):=by omega
      rw [e1,e2,ih (n / 10) k _ (by rw [Nat.div_lt_iff_lt_mul (by decide)];rwa [Nat.pow_succ] at hn) (.inr (by simp)) (by simp;omega) (by omega),dgs_pos hz,List.append_assoc]
      rfl
def U18:Nat:=1000000000000000000
theorem small18 {n:Nat} (h:n < U18):digits_small.f (n:Int) 18=some (strOfNums (fx 18 n)):=by
  unfold digits_small.f
  unfold U18 at h
  rw [if_pos ⟨by omega,by omega⟩,show (18:Int)=((18:Nat):Int) from rfl,small_fx 18 (by decide) 18 n 21 [] h rfl (by decide),List.append_nil]
  rfl
theorem small1 {n:Nat} (h:n < U18) (h0:n≠0):digits_small.f (n:Int) 1=some (strOfNums (dgs n)):=by
  unfold digits_small.f
  have h':=h
  unfold U18 at h
  rw [if_pos ⟨by omega,by omega⟩,small_dgs 18 n 21 [] h' (.inl h0) (by decide) (by decide),List.append_nil]
  rfl
theorem go_snoc (l:List ByteArray) (t:ByteArray):digits_joined.go (l ++ [t]) 0=t.data.toList ++ digits_joined.go l 0:=by
  simp [digits_joined.go]
theorem u18_lim:Ev (fun k=>nat_Of.f k ([1000000000000000000]:List Int)) (lim U18) :=
  of_lim (n:=1) (by rw [vW_one];rfl) (by intro x hx;simp at hx;subst hx;decide) (by decide) (by decide)
theorem lim_small {r:Nat} (h:r < U18):lim r=if r=0 then [] else [(r:Int)]:=by
  unfold U18 at h
  by_cases h0:r=0
  · subst h0;rw [lim_zero];rfl
  · rw [if_neg h0]
    unfold lim
    have e1:r % 18446744073709551616=r:=Nat.mod_eq_of_lt (by omega)
    have e2:r / 18446744073709551616=0:=Nat.div_eq_of_lt (by omega)
    rw [dg_pos W2 h0,show r % W=r from e1,show r / W=0 from e2,dg_zero]
theorem print_l1 {r q:Nat} {gs:List ByteArray} {R:ByteArray} (hr:r < U18)
    (h:Ev (fun k=>digits_Print.l1 k gs (r:Int) (lim r) ((lim r).length:Int) ((lim r).length:Int) (lim q)) R):Ev (fun k=>digits_Print.l1 k gs 0 (lim r) ((lim r).length:Int) 0 (lim q)) R:=by
  rw [lim_small hr] at h ⊢
  by_cases h0:r=0
  · subst h0
    exact h
  · rw [if_neg h0] at h ⊢
    refine Ev.unroll ?_
    simp only [digits_Print.l1]
    refine Ev.pos (by simp) (Ev.pos (by decide) (Ev.pos (by simp) ?_))
    rw [show wrap64 (0 + 1)=(([(r:Int)].length:Nat):Int) by simp [wrap64],show rd [(r:Int)] 0=(r:Int) from rfl]
    exact h
theorem print_l0 (n:Nat) : ∀ gs:List ByteArray,(lim n).length < 1099511627776→gs.length + (dgs n).length < 8796093022208→(digits_joined.go gs 0).length + (dgs n).length≤140737488355328 →
    Ev (fun k=>digits_Print.l0 k gs (lim n)) ⟨(bts (dgs n) ++ digits_joined.go gs 0).toArray⟩:=by
  induction n using Nat.strongRecOn with
  | _ n ih =>
    intro gs hl h1 h2
    refine Ev.unroll ?_
    simp only [digits_Print.l0]
    refine Ev.bindc (zero_eq n) ?_
    by_cases h0:n=0
    · subst h0
      refine Ev.pos rfl ?_
      rw [dgs_zero] at h1 h2 ⊢
      refine Ev.bindc (x:=⟨(digits_joined.go gs 0).toArray⟩) ?_ (Ev.const rfl)
      unfold digits_joined.f
      rw [if_pos ⟨by simp at h1;omega,by simpa using h2⟩]
    · refine Ev.neg (by simp [h0]) ?_
      have hu:U18≠0:=by decide
      have hr:n % U18 < U18:=Nat.mod_lt _ (by decide)
      have hq:n / U18 < n:=Nat.div_lt_self (Nat.pos_of_ne_zero h0) (by decide)
      refine Ev.bind u18_lim ?_
      refine Ev.bind (div_ev n U18 hu hl (Nat.lt_of_le_of_lt (lim_len_le (m:=1) (by decide)) (by decide))) ?_
      have hlr:(lim (n % U18)).length≤1:=lim_len_le (by rw [Nat.pow_one];exact Nat.lt_trans hr (by decide))
      have hlq:=len_mono (Nat.div_le_self n U18)
      refine Ev.bindc (limbs_eq (lim (n % U18)) (by omega)) ?_
      refine print_l1 hr ?_
      refine Ev.unroll ?_
      simp only [digits_Print.l1]
      refine Ev.neg (by omega) ?_
      refine Ev.bindc (zero_eq (n / U18)) ?_
      by_cases hz:n / U18=0
      · have hm:n % U18=n:=by
          have:=Nat.div_add_mod n U18
          rw [hz] at this;omega
        refine Ev.pos (by simp [hz]) ?_
        rw [hm]
        refine Ev.bindc (small1 (by rw [← hm];exact hr) h0) (Ev.pos (by omega) ?_)
        rw [hz]
        have:=ih 0 (by omega) (gs ++ [strOfNums (dgs n)]) (by rw [lim_zero];decide) (by rw [dgs_zero];have:=dgs_ne h0;simp;omega) (by rw [go_snoc,str_data,dgs_zero];simp [bts];omega)
        rw [go_snoc,str_data,dgs_zero] at this
        exact this
      · have hle:U18≤n:=by
          rcases Nat.lt_or_ge n U18 with h|h
          · exact absurd (Nat.div_eq_of_lt h) hz
          · exact h
        have hd:=dgs_fx 18 n hle
        have e18:(10:Nat) ^ 18=U18:=by decide
        rw [e18] at hd
        refine Ev.neg (by simp [hz]) ?_
        refine Ev.bindc (small18 hr) (Ev.pos (by omega) ?_)
        have hdl:(dgs n).length=(dgs (n / U18)).length + 18:=by rw [hd,List.length_append,fx_len]
        have:=ih (n / U18) hq (gs ++ [strOfNums (fx 18 (n % U18))]) (by omega) (by simp;omega) (by rw [go_snoc,str_data];simp [bts,fx_len];omega)
        rw [go_snoc,str_data] at this
        rw [hd]
        have e:bts (dgs (n / U18) ++ fx 18 (n % U18)) ++ digits_joined.go gs 0=bts (dgs (n / U18)) ++ (bts (fx 18 (n % U18)) ++ digits_joined.go gs 0):=by
          simp [bts]
        rw [e]
        exact this
theorem dPrint (n:Nat) (hl:(lim n).length≤400000000):Ev (fun k=>digits_Print.f k (lim n)) (text n):=by
  unfold digits_Print.f text
  refine Ev.bindc (zero_eq n) ?_
  by_cases h0:n=0
  · rw [if_pos h0]
    exact Ev.pos (by simp [h0]) (Ev.const rfl)
  · rw [if_neg h0]
    refine Ev.neg (by simp [h0]) ?_
    have:=dgs_lim hl
    have h:=print_l0 n [] (by omega) (by simp;omega) (by simp [digits_joined.go];omega)
    have e:(⟨(bts (dgs n) ++ digits_joined.go [] 0).toArray⟩:ByteArray)=strOfNums (dgs n):=by
      simp [digits_joined.go,bts,strOfNums]
    rw [e] at h
    exact h
theorem fx_add (a b:Nat) : ∀ n,fx (a + b) n=fx a (n / 10 ^ b) ++ fx b n:=by
  induction b with
  | zero=>intro n;simp [fx]
  | succ b ih =>
    intro n
    show fx (a + b) (n / 10) ++ _=_
    rw [ih (n / 10),Nat.div_div_eq_div_mul,Nat.pow_succ,Nat.mul_comm 10 (10 ^ b),List.append_assoc]
    rfl
theorem fx_mod (m:Nat) : ∀ n,fx m (n % 10 ^ m)=fx m n:=by
  induction m with
  | zero=>intro n;rfl
  | succ m ih =>
    intro n
    have e1:n % (10 ^ m * 10) / 10=n / 10 % 10 ^ m:=by rw [Nat.mul_comm,Nat.mod_mul_right_div_self]
    have e2:n % (10 ^ m * 10) % 10=n % 10:=Nat.mod_mul_left_mod _ _ _
    show fx m (n % 10 ^ (m + 1) / 10) ++ [48 + ((n % 10 ^ (m + 1) % 10:Nat):Int)]=fx m (n / 10) ++ _
    rw [Nat.pow_succ,e1,e2,ih]
theorem bt_str (xs:List Int) (i:Nat) (h:i < xs.length):bt (strOfNums xs) (i:Int)=(((xs.getD i 0).toNat % 256:Nat):Int):=by
  unfold bt
  have hs:(i:Int).toNat < (strOfNums xs).size:=by rw [str_size,Int.toNat_natCast];exact h
  rw [dif_pos hs]
  simp [strOfNums,ByteArray.getElem_eq_getElem_data,List.getD,h]
theorem str_extract (a b:List Int):(strOfNums (a ++ b)).extract a.length (strOfNums (a ++ b)).size=strOfNums b:=by
  apply ByteArray.ext
  rw [str_size,ByteArray.data_extract]
  apply Array.toList_inj.1
  simp [strOfNums]
  rw [List.take_of_length_le (by simp)]
theorem size_ok {j r:Nat} (hj:j≤4) (hr:r < 4611686018427387000):1 + (j + r)≤9223372036854775807:=by omega
theorem dig_step (m:Nat) (h:m < 10000):wrap64 (48 + Int.tmod (m:Int) 10) % 256=48 + ((m % 10:Nat):Int)∧wrap64 (Int.tdiv (m:Int) 10)=((m / 10:Nat):Int):=by
  rw [tmod_pos (by omega),tdiv_pos (by omega)]
  unfold wrap64
  omega
theorem rprint_l2 (z:Nat) (c:Int) (l:List Int) (hc:49≤c∧c≤57) (hz:z + l.length < 4611686018427387904) : ∀ t i:Nat,i + t=z →
    Ev (fun k=>chattelref01_Print.l2 k (strOfNums (List.replicate z 48 ++ c :: l)) (i:Int)) (strOfNums (c :: l)):=by
  have hlen:(List.replicate z (48:Int) ++ c :: l).length=z + l.length + 1:=by simp;omega
  intro t
  induction t with
  | zero =>
    intro i hi
    obtain rfl:i=z:=by omega
    refine Ev.unroll ?_
    simp only [chattelref01_Print.l2]
    refine Ev.pos (by omega) (Ev.pos (by rw [str_size,hlen];omega) ?_)
    have hb:=bt_str (List.replicate i (48:Int) ++ c :: l) i (by rw [hlen];omega)
    have hg:(List.replicate i (48:Int) ++ c :: l).getD i 0=c:=by simp [List.getD]
    rw [hg] at hb
    rw [hb]
    refine Ev.neg (by omega) (Ev.pos (by rw [str_size,hlen];omega) (Ev.const ?_))
    have:=str_extract (List.replicate i (48:Int)) (c :: l)
    rw [List.length_replicate] at this
    rw [Int.toNat_natCast,this]
  | succ t ih =>
    intro i hi
    refine Ev.unroll ?_
    simp only [chattelref01_Print.l2]
    refine Ev.pos (by omega) (Ev.pos (by rw [str_size,hlen];omega) ?_)
    have hb:=bt_str (List.replicate z (48:Int) ++ c :: l) i (by rw [hlen];omega)
    have hg:(List.replicate z (48:Int) ++ c :: l).getD i 0=48:=by
      rw [List.getD_eq_getElem?_getD,List.getElem?_append_left (by simp;omega),List.getElem?_replicate,if_pos (by omega)]
      rfl
    rw [hg] at hb
    rw [hb]
    refine Ev.pos rfl ?_
    have hw:wrap64 ((i:Int) + 1)=((i + 1:Nat):Int):=by unfold wrap64;omega
    rw [hw]
    exact ih (i + 1) (by omega)
theorem rprint_l1 (x0:List Int) (i:Int) (d:Nat) (hd:d < 10000) (rest:List Int) (hr:rest.length < 4611686018427387000) {R:ByteArray}
    (h:Ev (fun k=>chattelref01_Print.l0 k x0 (strOfNums (fx 4 d ++ rest)) (wrap64 (i + 1))) R) : ∀ t j:Nat,j + t=4 →
    Ev (fun k=>chattelref01_Print.l1 k x0 (strOfNums (fx j d ++ rest)) i ((d / 10 ^ j:Nat):Int) (j:Int)) R:=by
  intro t
  induction t with
  | zero =>
    intro j hj
    obtain rfl:j=4:=by omega
    refine Ev.unroll ?_
    simp only [chattelref01_Print.l1]
    exact Ev.neg (by omega) h
  | succ t ih =>
    intro j hj
    have hj4:j≤4:=by omega
    have hj5:j + 1 + t=4:=by omega
    refine Ev.unroll ?_
    simp only [chattelref01_Print.l1]
    refine Ev.pos (by omega) ?_
    have hdj:d / 10 ^ j < 10000:=Nat.lt_of_le_of_lt (Nat.div_le_self _ _) hd
    obtain ⟨e1,e2⟩:=dig_step (d / 10 ^ j) hdj
    rw [Nat.div_div_eq_div_mul,← Nat.pow_succ] at e2
    have e3:wrap64 ((j:Int) + 1)=((j + 1:Nat):Int):=by unfold wrap64;omega
    rw [e1,e2,e3]
    have e4:strOfNums [48 + ((d / 10 ^ j % 10:Nat):Int)] ++ strOfNums (fx j d ++ rest)=strOfNums (fx (j + 1) d ++ rest):=by
      rw [← str_app,← List.append_assoc,Nat.add_comm j 1,fx_add 1 j d]
      rfl
    refine Ev.bindc (x:=[48 + ((d / 10 ^ j % 10:Nat):Int)]) rfl (Ev.pos ?_ ?_)
    · rw [str_size,str_size,List.length_append,fx_len,List.length_singleton];exact size_ok hj4 hr
    · rw [e4]
      exact ih (j + 1) hj5
theorem rprint_l0 (n:Nat) (h0:n≠0) (hl:(dig n).length≤1000000000000) : ∀ t i:Nat,i + t=(dig n).length →
    Ev (fun k=>chattelref01_Print.l0 k (dig n) (strOfNums (fx (4 * i) n)) (i:Int)) (text n):=by
  intro t
  induction t with
  | zero =>
    intro i hi
    refine Ev.unroll ?_
    simp only [chattelref01_Print.l0]
    refine Ev.neg (by omega) ?_
    have hn:n < 10 ^ (4 * i):=by
      have:=dig_lt n
      rw [Nat.pow_mul]
      rw [show i=(dig n).length by omega]
      exact this
    obtain ⟨z,hz⟩:=fx_dgs (4 * i) n hn
    obtain ⟨c,l,e,h1,h2⟩:=dgs_head n h0
    have hlen:z + (dgs n).length=4 * i:=by
      have:=congrArg List.length hz
      rw [fx_len,List.length_append,List.length_replicate] at this
      omega
    rw [e] at hz hlen
    rw [hz]
    have:=rprint_l2 z c l ⟨h1,h2⟩ (by simp at hlen;omega) z 0 (by omega)
    unfold text
    rw [if_neg h0,e]
    exact this
  | succ t ih =>
    intro i hi
    refine Ev.unroll ?_
    simp only [chattelref01_Print.l0]
    refine Ev.pos (by omega) (Ev.pos (by omega) ?_)
    have hd:rd (dig n) (i:Int)=((n / 10000 ^ i % 10000:Nat):Int):=by
      unfold rd
      rw [Int.toNat_natCast]
      exact dg_getD D2 n i
    rw [hd]
    have e10:(10000:Nat) ^ i=10 ^ (4 * i):=by rw [Nat.pow_mul]
    have h4:fx 4 (n / 10000 ^ i % 10000)=fx 4 (n / 10 ^ (4 * i)):=by
      rw [← fx_mod 4 (n / 10 ^ (4 * i)),e10]
    have hw:wrap64 ((i:Int) + 1)=((i + 1:Nat):Int):=by unfold wrap64;omega
    have:=rprint_l1 (dig n) (i:Int) (n / 10000 ^ i % 10000) (Nat.mod_lt _ (by decide)) (fx (4 * i) n) (by rw [fx_len];omega) (R:=text n) (by
      rw [h4,← fx_add 4 (4 * i) n,hw,show 4 + 4 * i=4 * (i + 1) by omega]
      exact ih (i + 1) (by omega)) 4 0 (by omega)
    rw [Nat.pow_zero,Nat.div_one] at this
    exact this
theorem rPrint (n:Nat) (hl:(dig n).length≤1000000000000):Ev (fun k=>chattelref01_Print.f k (dig n)) (text n):=by
  unfold chattelref01_Print.f
  by_cases h0:n=0
  · refine Ev.pos (by have:=dig_nil.2 h0;omega) (Ev.const ?_)
    unfold text
    rw [if_pos h0];rfl
  · refine Ev.neg (fun h=>h0 (dig_nil.1 (by omega))) ?_
    exact rprint_l0 n h0 hl (dig n).length 0 (by omega)
end Go.Proofs.YtakidmbnkkhojaaGreatM
end
