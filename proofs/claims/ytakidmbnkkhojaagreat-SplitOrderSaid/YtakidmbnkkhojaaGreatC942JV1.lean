-- Joined of: V20 V21 V22 V23 V24
import Derived.Test.YtakidmbnkkhojaaGreatC942JV0
import Derived.Scope
section
namespace Go.AVL
open Go.RowKit
set_option linter.unusedVariables false
set_option linter.unusedSimpArgs false
inductive Out where
  | normal|ret|exit (id:Nat)|goto (l:Nat)
def Out.ex:Out→Exit
  | .normal=>.normal | .ret=>.ret | .exit id=>.exit id | .goto l=>.goto l
def thenO (K:St→Prop) (Q:Out→St→Prop):Out→St→Prop
  | .normal,s=>K s
  | o,s=>Q o s
def blockO (id:Nat) (Q:Out→St→Prop):Out→St→Prop
  | .exit id',s=>(id'=id→Q .normal s)∧(id'≠id→Q (.exit id') s)
  | o,s=>Q o s
def jumpO (c:Code) (R:Nat→St→Prop) (Q:Out→St→Prop):Out→St→Prop
  | .goto l,s=>((findLabel c l).isSome=true→R l s)∧((findLabel c l).isSome=false→Q (.goto l) s)
  | o,s=>Q o s
def Loop (B:St→(Out→St→Prop)→Prop) (Q:Out→St→Prop) (st:St):Prop:=∀ R:St→Prop,(∀ s,B s (thenO R Q)→R s)→R st
def Scope (c:Code) (B:St→(Out→St→Prop)→Prop) (L:Nat→St→(Out→St→Prop)→Prop) (Q:Out→St→Prop) (st:St):Prop :=
  ∀ (R:Nat→St→Prop) (R0:Prop),(∀ l s,L l s (jumpO c R Q)→R l s)→(B st (jumpO c R Q)→R0)→R0
def XR (P:Program) (ops:Array Oper) (draw:Bool) (st:St) (Q:St→Prop):Prop:=match draw with
  | false=>XO P ops ops.toList st Q
  | true=>XG P ops ops.toList [] st Q
def dstOk (n:Nat):Code→Bool
  | .region _ ops _=>ops.toList.all fun o=>match o.dst with|some d=>Nat.blt d n|none=>true
  | .seq x y | .cond _ x y=>dstOk n x && dstOk n y
  | .block _ x | .loop x | .scope x=>dstOk n x
  | .rangeFunc _ _ x y=>dstOk n x && dstOk n y
  | _=>true
def ByHand (P:Program) (x:Code) (st:St) (Q:Out→St→Prop):Prop :=
  ∀ (c:Ctx P) (Qc:Exit→Act→World→Prop),dstOk c.n x=true→(∀ o s a w,Q o s→SR c s a w→Qc o.ex a w)→∀ a w,SR c st a w→x.wp P Qc a w
mutual
def XC (P:Program):Code→St→(Out→St→Prop)→Prop
  | .skip,st,Q=>Q .normal st
  | .label _,st,Q=>Q .normal st
  | .region _ ops draw,st,Q=>XR P ops draw st (Q .normal)
  | .seq x y,st,Q=>XC P x st (thenO (fun s=>XC P y s Q) Q)∨ByHand P (.seq x y) st Q
  | .cond c x y,st,Q=>∃ b,Ev st c (.bool b)∧(b=true→XC P x st Q)∧(b=false→XC P y st Q)
  | .block id x,st,Q=>XC P x st (blockO id Q)
  | .loop x,st,Q=>Loop (XC P x) Q st
  | .scope x,st,Q=>Scope x (XC P x) (XL P x) Q st
  | .exit id,st,Q=>Q (.exit id) st
  | .goto l,st,Q=>Q (.goto l) st
  | .ret,st,Q=>Q .ret st
  | .rangeFunc _ _ _ _,_,_=>False
  | .refuse _,_,_=>False
def XL (P:Program):Code→Nat→St→(Out→St→Prop)→Prop
  | .seq x y,l,st,Q=>((findLabel x l).isSome=true→XL P x l st (thenO (fun s=>XC P y s Q) Q))∧((findLabel x l).isSome=false→XL P y l st Q)
  | .label _,_,st,Q=>Q .normal st
  | _,_,_,_=>False
end
section
variable {P : Program}
theorem thenO_mono {K K':St→Prop} {Q Q':Out→St→Prop} (hk : ∀ s,K s→K' s) (hq : ∀ o s,Q o s→Q' o s) : ∀ o s,thenO K Q o s→thenO K' Q' o s:=by
  intro o s h
  cases o <;> first|exact hk _ h|exact hq _ _ h
theorem Nx.mono {ops:Array Oper} {st:St} {o:Oper} {K K':St→Prop} (h:Nx P ops st o K) (hk : ∀ s,K s→K' s):Nx P ops st o K':=by
  induction h with
  | pu h1 h2=>exact .pu h1 (hk _ h2)
  | ef h1 h2 h3=>exact .ef h1 h2 (hk _ h3)
  | nilc h1 h2 h3 h4 h5 h6=>exact .nilc h1 h2 h3 h4 h5 fun b hb=>hk _ (h6 b hb)
  | maybe h1 h2=>exact .maybe h1 (hk _ h2)
  | split want hb _ _ ih1 ih2=>exact .split want hb ih1 ih2
theorem XO.mono {ops:Array Oper} {Q Q':St→Prop} (hq : ∀ s,Q s→Q' s) : ∀ (os:List Oper) (st:St),XO P ops os st Q→XO P ops os st Q'
  | [],st,h=>hq _ h
  | o :: os,st,h=>Nx.mono (show Nx P ops st o _ from h) fun s hs=>XO.mono hq os s hs
theorem XG.mono {ops:Array Oper} {Q Q':St→Prop} (hq : ∀ s,Q s→Q' s) : ∀ (os:List Oper) (fr:List (Option (List Nat)×List Nat)) (st:St),XG P ops os fr st Q→XG P ops os fr st Q'
  | [],fr,st,h=>⟨h.1,hq _ h.2⟩
  | o :: os,fr,st,h=>let ⟨f,W,R,h1,h2⟩:=h;⟨f,W,R,h1,XG.mono hq os _ _ h2⟩
theorem XCL_mono (c:Code):(∀ {st:St} {Q Q':Out→St→Prop},XC P c st Q→(∀ o s,Q o s→Q' o s)→XC P c st Q')∧(∀ {l:Nat} {st:St} {Q Q':Out→St→Prop},XL P c l st Q→(∀ o s,Q o s→Q' o s)→XL P c l st Q'):=by
  induction c with
  | skip=>exact ⟨fun h hq=>by unfold XC at h ⊢;exact hq _ _ h,fun h hq=>by unfold XL at h;exact h.elim⟩
  | region id ops draw =>
    refine ⟨fun h hq=>?_,fun h hq=>by unfold XL at h;exact h.elim⟩
    unfold XC XR at h ⊢
    cases draw with
    | false=>exact XO.mono (hq .normal) _ _ h
    | true=>exact XG.mono (hq .normal) _ _ _ h
  | seq x y ihx ihy =>
    refine ⟨fun h hq=>?_,fun h hq=>?_⟩
    · unfold XC at h ⊢
      rcases h with h|h
      · exact .inl (ihx.1 h (thenO_mono (fun s hs=>ihy.1 hs hq) hq))
      · exact .inr fun c Qc hd hQ=>h c Qc hd fun o s a w ho hs=>hQ o s a w (hq o s ho) hs
    · unfold XL at h ⊢
      exact ⟨fun hl=>ihx.2 (h.1 hl) (thenO_mono (fun s hs=>ihy.1 hs hq) hq),fun hl=>ihy.2 (h.2 hl) hq⟩
  | cond c x y ihx ihy =>
    refine ⟨fun h hq=>?_,fun h hq=>by unfold XL at h;exact h.elim⟩
    unfold XC at h ⊢
    exact let ⟨b,h1,h2,h3⟩:=h;⟨b,h1,fun e=>ihx.1 (h2 e) hq,fun e=>ihy.1 (h3 e) hq⟩
  | block id x ih =>
    refine ⟨fun h hq=>?_,fun h hq=>by unfold XL at h;exact h.elim⟩
    unfold XC at h ⊢
    refine ih.1 h fun o s hs=>?_
    cases o <;> first|exact hq _ _ hs|exact ⟨fun e=>hq _ _ (hs.1 e),fun e=>hq _ _ (hs.2 e)⟩
  | loop x ih =>
    refine ⟨fun h hq=>?_,fun h hq=>by unfold XL at h;exact h.elim⟩
    unfold XC at h ⊢
    exact fun R hR=>h R fun s hs=>hR s (ih.1 hs (thenO_mono (fun _ h=>h) hq))
  | scope x ih =>
    refine ⟨fun h hq=>?_,fun h hq=>by unfold XL at h;exact h.elim⟩
    unfold XC at h ⊢
    have hj : ∀ (R:Nat→St→Prop) o s,jumpO x R _ o s→jumpO x R _ o s:=fun R o s hs=>by
      cases o <;> first|exact hq _ _ hs|exact ⟨hs.1,fun e=>hq _ _ (hs.2 e)⟩
    exact fun R R0 hR hR0=>h R R0 (fun l s hs=>hR l s (ih.2 hs (hj R))) fun hs=>hR0 (ih.1 hs (hj R))
  | exit id=>exact ⟨fun h hq=>by unfold XC at h ⊢;exact hq _ _ h,fun h hq=>by unfold XL at h;exact h.elim⟩
  | goto l=>exact ⟨fun h hq=>by unfold XC at h ⊢;exact hq _ _ h,fun h hq=>by unfold XL at h;exact h.elim⟩
  | ret=>exact ⟨fun h hq=>by unfold XC at h ⊢;exact hq _ _ h,fun h hq=>by unfold XL at h;exact h.elim⟩
  | label l=>exact ⟨fun h hq=>by unfold XC at h ⊢;exact hq _ _ h,fun h hq=>by unfold XL at h ⊢;exact hq _ _ h⟩
  | rangeFunc _ _ _ _ _ _=>exact ⟨fun h hq=>by unfold XC at h;exact h.elim,fun h hq=>by unfold XL at h;exact h.elim⟩
  | refuse _=>exact ⟨fun h hq=>by unfold XC at h;exact h.elim,fun h hq=>by unfold XL at h;exact h.elim⟩
theorem XC.mono {c:Code} {st:St} {Q Q':Out→St→Prop} (h:XC P c st Q) (hq : ∀ o s,Q o s→Q' o s):XC P c st Q':=(XCL_mono c).1 h hq
theorem XC.loop {c:Code} {st:St} {Q:Out→St→Prop} (h:XC P c st (thenO (fun s=>XC P (.loop c) s Q) Q)):XC P (.loop c) st Q:=by
  show Loop (XC P c) Q st
  intro R hR
  refine hR st (h.mono (thenO_mono (fun s hs=>?_) fun _ _ h=>h))
  exact (show Loop (XC P c) Q s from hs) R hR
theorem region_sound {c:Ctx P} (hmix:P.follows .mixedOrders=true) {id:Nat} {ops:Array Oper} {draw:Bool} {st:St} {Q:St→Prop} {Qc:Exit→Act→World→Prop} {a:Act} {w:World}
    (hQ : ∀ st' a' w',Q st'→SR c st' a' w'→Qc .normal a' w') (hd:dstOk c.n (.region id ops draw)=true) (h:XR P ops draw st Q) (hs:SR c st a w):(Code.region id ops draw).wp P Qc a w:=by
  have hdst : ∀ (i:Nat) (o:Oper),ops[i]?=some o→∀ x,o.dst=some x→x < c.n:=by
    intro i o ho x hx
    unfold dstOk at hd
    rw [List.all_eq_true] at hd
    have:=hd o (by rw [← Array.getElem?_toList] at ho;exact List.mem_of_getElem? ho)
    rw [hx] at this
    exact Nat.le_of_ble_eq_true this
  cases draw with
  | false =>
    refine wp_region ?_
    have:=XO.sound (c:=c) hQ hdst ops.toList 0 st a w rfl h hs
    rw [List.range_eq_range']
    simpa using this
  | true =>
    obtain ⟨S,f,W,R,gr,e1,e2,_,e4,e5⟩:=XG.data ops.toList [] st rfl h
    obtain ⟨DF,e6⟩:=comOk.facts e4
    have D:Dat P ops S f W R:=⟨fun j o ho=>(e2 j o (Nat.zero_le _) ho).1,fun j hj=>let ⟨o,ho⟩:=some_op hj;(e2 j o (Nat.zero_le _) ho).2.1,fun i j oi oj hij hi hj=>by
      have:=e6 i j oi oj hij hi hj
      rwa [(e2 i oi (Nat.zero_le _) hi).2.2,(e2 j oj (Nat.zero_le _) hj).2.2] at this⟩
    refine wp_region_any hmix ?_
    have hs':SR c st a {w with drawn:=w.drawn + 1}:=by
      obtain ⟨I,m,hx⟩:=hs
      exact ⟨I,m,hx.grow ((Below.refl w.heap.size w).drew)⟩
    have hno : ∀ i,(Array.replicate ops.size false).getD i false=false:=fun i=>by
      rw [Array.getD_eq_getD_getElem?,Array.getElem?_replicate]
      split <;> rfl
    refine XG.sound DF D hQ hdst e5 ops.size (Array.replicate ops.size false) a _ (by simp) ?_ (fun i hl=>absurd hl (by unfold Listed;rw [hno i];simp)) ?_
    · unfold unl
      exact Nat.le_trans (List.length_filter_le _ _) (by simp)
    · have : ∀ k,mrg f (fun i=>(Array.replicate ops.size false).getD i false) (S 0) k=st:=by
        intro k
        induction k with
        | zero=>exact e1
        | succ k ih =>
          unfold mrg
          rw [hno k]
          exact ih
      rw [this]
      exact hs'
theorem code_sound {c:Ctx P} (hmix:P.follows .mixedOrders=true) (code:Code):dstOk c.n code=true →
    (∀ {st:St} {Q:Out→St→Prop} {Qc:Exit→Act→World→Prop},XC P code st Q→(∀ o s a w,Q o s→SR c s a w→Qc o.ex a w)→∀ a w,SR c st a w→code.wp P Qc a w) ∧
    (∀ {l:Nat} {rest:Code} {st:St} {Q:Out→St→Prop} {Qc:Exit→Act→World→Prop},findLabel code l=some rest→XL P code l st Q→(∀ o s a w,Q o s→SR c s a w→Qc o.ex a w)→∀ a w,SR c st a w→rest.wp P Qc a w):=by
  induction code with
  | skip=>exact fun _=>⟨fun h hQ a w hs=>by unfold XC at h;exact wp_skip (hQ _ _ _ _ h hs),fun hf=>by simp [findLabel] at hf⟩
  | region id ops draw=>exact fun hd=>⟨fun h hQ a w hs=>by unfold XC at h;exact region_sound hmix (fun st' a' w' hq hs'=>hQ .normal _ _ _ hq hs') hd h hs,fun hf=>by simp [findLabel] at hf⟩
  | seq x y ihx ihy =>
    intro hdd
    have hd:=hdd
    simp only [dstOk,Bool.and_eq_true] at hd
    have hseq : ∀ {Q:Out→St→Prop} {Qc:Exit→Act→World→Prop},(∀ o s a w,Q o s→SR c s a w→Qc o.ex a w)→∀ o s a w,thenO (fun s=>XC P y s Q) Q o s→SR c s a w→Exit.then (y.wp P Qc) Qc o.ex a w:=by
      intro Q Qc hQ o s a w h hs
      cases o with
      | normal=>exact (ihy hd.2).1 h hQ a w hs
      | ret=>exact hQ _ _ _ _ h hs
      | exit id=>exact hQ _ _ _ _ h hs
      | goto l=>exact hQ _ _ _ _ h hs
    refine ⟨fun h hQ a w hs=>?_,fun {l rest st Q Qc} hf h hQ a w hs=>?_⟩
    · unfold XC at h
      rcases h with h|h
      · exact wp_seq ((ihx hd.1).1 h (hseq hQ) a w hs)
      · exact h c _ hdd hQ a w hs
    · unfold XL at h
      simp only [findLabel] at hf
      cases hx:findLabel x l with
      | some r =>
        rw [hx] at hf
        simp only [Option.some.injEq] at hf
        subst hf
        exact wp_seq ((ihx hd.1).2 hx (h.1 (by rw [hx];rfl)) (hseq hQ) a w hs)
      | none =>
        rw [hx] at hf
        exact (ihy hd.2).2 hf (h.2 (by rw [hx];rfl)) hQ a w hs
  | cond cc x y ihx ihy =>
    intro hd
    simp only [dstOk,Bool.and_eq_true] at hd
    refine ⟨fun h hQ a w hs=>?_,fun hf=>by simp [findLabel] at hf⟩
    unfold XC at h
    obtain ⟨b,h1,h2,h3⟩:=h
    obtain ⟨I,m,hx⟩:=hs
    exact wp_cond_split (h1.vr hx).bool_inv (fun e=>(ihx hd.1).1 (h2 e) hQ a w ⟨I,m,hx⟩) fun e=>(ihy hd.2).1 (h3 e) hQ a w ⟨I,m,hx⟩
  | block id x ih =>
    intro hd
    refine ⟨fun {st Q Qc} h hQ a w hs=>?_,fun hf=>by simp [findLabel] at hf⟩
    unfold XC at h
    refine wp_block ((ih hd).1 h (fun o s a w h hs=>?_) a w hs)
    cases o with
    | exit id' =>
      show (if id'=id then Qc .normal a w else Qc (.exit id') a w)
      by_cases e:id'=id
      · rw [if_pos e];exact hQ .normal _ _ _ (h.1 e) hs
      · rw [if_neg e];exact hQ (.exit id') _ _ _ (h.2 e) hs
    | normal=>exact hQ _ _ _ _ h hs
    | ret=>exact hQ _ _ _ _ h hs
    | goto l=>exact hQ _ _ _ _ h hs
  | loop x ih =>
    intro hd
    refine ⟨fun {st Q Qc} h hQ a w hs=>?_,fun hf=>by simp [findLabel] at hf⟩
    unfold XC at h
    intro b k cs
    have key:=h (fun st=>∀ a w,SR c st a w→∃ e a' w',Qc e a' w'∧Arrives P (lone (b.at a (.code x :: .inLoop x :: k)) cs w) b k cs e a' w') (fun s hB a w hs=>by
      obtain ⟨e,a₁,w₁,hq,harr⟩:=(ih hd).1 (Qc:=Exit.then (fun a w=>∃ e a' w',Qc e a' w'∧Arrives P (lone (b.at a (.code x :: .inLoop x :: k)) cs w) b k cs e a' w') Qc) hB (fun o s a w h hs=>by
        cases o with
        | normal=>exact h a w hs
        | ret=>exact hQ _ _ _ _ h hs
        | exit id=>exact hQ _ _ _ _ h hs
        | goto l=>exact hQ _ _ _ _ h hs) a w hs b (.inLoop x :: k) cs
      cases e with
      | normal =>
        obtain ⟨e₂,a₂,w₂,hq₂,harr₂⟩:=hq
        exact ⟨e₂,a₂,w₂,hq₂, .of_steps (Steps.trans harr (.one step_inLoop)) harr₂⟩
      | exit id=>exact ⟨_,a₁,w₁,hq, .pass (x:=.inLoop x) rfl (fun _ _=>.inl (by simp)) harr⟩
      | goto l=>exact ⟨_,a₁,w₁,hq, .pass (x:=.inLoop x) rfl (fun _ _=>.inl (by simp)) harr⟩
      | ret=>exact ⟨_,a₁,w₁,hq, .pass (x:=.inLoop x) rfl (fun _ _=>.inl (by simp)) harr⟩
      | panic ch=>exact ⟨_,a₁,w₁,hq, .pass (x:=.inLoop x) rfl (fun _ _=>.inl (by simp)) harr⟩
      | outgrown=>exact ⟨_,a₁,w₁,hq, .pass (x:=.inLoop x) rfl (fun _ _=>.inl (by simp)) harr⟩)
    obtain ⟨e,a',w',hq,harr⟩:=key a w hs
    exact ⟨e,a',w',hq, .of_steps (.one step_loop) harr⟩
  | scope x ih =>
    intro hd
    refine ⟨fun {st Q Qc} h hQ a w hs=>?_,fun hf=>by simp [findLabel] at hf⟩
    unfold XC at h
    intro b k cs
    have hg : ∀ l rest,findLabel x l=some rest→gotoIn l (.inScope x :: k)=some (.code rest :: .inScope x :: k):=fun l rest hf=>by simp [gotoIn,hf]
    have hgn : ∀ l,findLabel x l=none→gotoIn l (.inScope x :: k)=gotoIn l k:=fun l hf=>by simp [gotoIn,hf]
    have fin : ∀ (m0:Machine) e a₁ w₁,Arrives P m0 b (.inScope x :: k) cs e a₁ w₁ →
        (match e with
         | .goto l=>((findLabel x l).isSome=true→∀ rest,findLabel x l=some rest→∃ e a' w',Qc e a' w'∧Arrives P (lone (b.at a₁ (.code rest :: .inScope x :: k)) cs w₁) b k cs e a' w')∧((findLabel x l).isSome=false→Qc (.goto l) a₁ w₁)
         | e=>Qc e a₁ w₁)→∃ e a' w',Qc e a' w'∧Arrives P m0 b k cs e a' w':=by
      intro m0 e a₁ w₁ harr hq
      cases e with
      | normal=>exact ⟨.normal,a₁,w₁,hq,Steps.trans harr (.one step_inScope)⟩
      | exit id=>exact ⟨.exit id,a₁,w₁,hq,fun k' hk=>harr k' (by simp [exitTo,hk])⟩
      | goto l =>
        cases hf:findLabel x l with
        | some rest =>
          obtain ⟨e₂,a₂,w₂,hq₂,harr₂⟩:=hq.1 (by rw [hf];rfl) rest hf
          exact ⟨e₂,a₂,w₂,hq₂, .of_steps (harr _ (hg l rest hf)) harr₂⟩
        | none=>exact ⟨.goto l,a₁,w₁,hq.2 (by rw [hf];rfl),fun k' hk=>harr k' (by rw [hgn l hf];exact hk)⟩
      | ret=>exact ⟨_,a₁,w₁,hq,harr⟩
      | panic ch=>exact ⟨_,a₁,w₁,hq,harr⟩
      | outgrown=>exact ⟨_,a₁,w₁,hq,harr⟩
    let QQ:Exit→Act→World→Prop:=fun e a₁ w₁=>match e with
         | .goto l=>((findLabel x l).isSome=true→∀ rest,findLabel x l=some rest→∃ e a' w',Qc e a' w'∧Arrives P (lone (b.at a₁ (.code rest :: .inScope x :: k)) cs w₁) b k cs e a' w')∧((findLabel x l).isSome=false→Qc (.goto l) a₁ w₁)
         | e=>Qc e a₁ w₁
    let RR:Nat→St→Prop:=fun l st=>∀ rest,findLabel x l=some rest→∀ a w,SR c st a w→∃ e a' w',Qc e a' w'∧Arrives P (lone (b.at a (.code rest :: .inScope x :: k)) cs w) b k cs e a' w'
    have hQQ : ∀ o s a w,jumpO x RR Q o s→SR c s a w→QQ o.ex a w:=by
      intro o s a w h hs
      cases o with
      | normal=>exact hQ .normal _ _ _ h hs
      | ret=>exact hQ .ret _ _ _ h hs
      | exit id=>exact hQ (.exit id) _ _ _ h hs
      | goto l=>exact ⟨fun e rest hf=>h.1 e rest hf a w hs,fun e=>hQ (.goto l) _ _ _ (h.2 e) hs⟩
    refine h RR _ (fun l s hL rest hf a w hs=>?_) (fun hB=>?_)
    · obtain ⟨e,a₁,w₁,hq,harr⟩:=(ih hd).2 hf hL hQQ a w hs b (.inScope x :: k) cs
      exact fin _ e a₁ w₁ harr hq
    · obtain ⟨e,a₁,w₁,hq,harr⟩:=(ih hd).1 hB hQQ a w hs b (.inScope x :: k) cs
      obtain ⟨e₂,a₂,w₂,hq₂,harr₂⟩:=fin _ e a₁ w₁ harr hq
      exact ⟨e₂,a₂,w₂,hq₂, .of_steps (.one step_scope) harr₂⟩
  | exit id=>exact fun _=>⟨fun h hQ a w hs=>by unfold XC at h;exact wp_exit (hQ _ _ _ _ h hs),fun hf=>by simp [findLabel] at hf⟩
  | goto l=>exact fun _=>⟨fun h hQ a w hs=>by unfold XC at h;exact wp_goto (hQ _ _ _ _ h hs),fun hf=>by simp [findLabel] at hf⟩
  | ret=>exact fun _=>⟨fun h hQ a w hs=>by unfold XC at h;exact wp_ret (hQ _ _ _ _ h hs),fun hf=>by simp [findLabel] at hf⟩
  | label l' =>
    refine fun _=>⟨fun h hQ a w hs=>by unfold XC at h;exact wp_label (hQ _ _ _ _ h hs),fun {l rest st Q Qc} hf h hQ a w hs=>?_⟩
    unfold XL at h
    simp only [findLabel] at hf
    split at hf
    · simp only [Option.some.injEq] at hf
      subst hf
      exact wp_skip (hQ _ _ _ _ h hs)
    · cases hf
  | rangeFunc _ _ _ _ _ _=>exact fun _=>⟨fun h=>by unfold XC at h;exact h.elim,fun hf=>by simp [findLabel] at hf⟩
  | refuse _=>exact fun _=>⟨fun h=>by unfold XC at h;exact h.elim,fun hf=>by simp [findLabel] at hf⟩
end
end Go.AVL
end

section
namespace Go.AVL
open Go.RowKit
set_option linter.unusedVariables false
set_option linter.unusedSimpArgs false
inductive Rs (P:Program) (st:St):List ResultVar→List AV→Prop
  | nil:Rs P st [] []
  | tmp {t v rs vs}:st.t t=v→Rs P st rs vs→Rs P st (.tmp t :: rs) (v :: vs)
  | cell {x t i s u j o v rs vs} [h:TI P t i]:st.t x = .op s u j o→(st.b s).ver=u→(st.b s).mode≠.dead→Part i.agg i.size o ((st.b s).row.get j) v→Rs P st rs vs→Rs P st (.cell x t :: rs) (v :: vs)
def Post (F:St→Prop):Out→St→Prop
  | .normal,s | .ret,s=>F s
  | _,_=>False
def entry (args:List AV) (io:Io):St:=⟨fun x=>args.getD x .bad,io.bIn⟩
structure FnOk (P:Program) (f:FuncId) (fn:Func) (code:Code):Prop where
  eq:P.funcs[f]?=some fn
  body:fn.body=some code
  name:(fn.name == "runtime.NumGoroutine")=false
  dst:dstOk fn.ntmps code=true
  mix:P.follows .mixedOrders=true
section
variable {P : Program} {c : Ctx P} {I : Nat → Prop} {m : Nat → Reg} {w w' : World} {st : St} {a : Act}
theorem callW_of_calls {f:FuncId} {fn:Func} {code:Code} (h:FnOk P f fn code) {V:Array Value} {w:World} {K:Value→World→Prop}
    (hc:Calls P f V w fun | .returned v,w'=>K v w'|_,_=>False):CallW P f V w K:=by
  have:(callFunc f V).run P w = .ok (.enter f V) w:=by
    have hn:=h.name
    simp only [beq_eq_false_iff_ne,ne_eq] at hn
    simp [callFunc,program,Sem.run,h.eq,hn,h.body]
  unfold CallW
  rw [this]
  exact hc
def rvRun (tmps:Array Value) (r:ResultVar):Sem Value:=match r with
  | .tmp t=>pure (tmps.getD t undef)
  | .cell x t=>do loadVar t (← asAddr (tmps.getD x undef))
theorem Rs.run (h:SRx c I m st a w) : ∀ {rs:List ResultVar} {vs:List AV},Rs P st rs vs →
    ∃ Vs:List Value,(rs.mapM (rvRun a.tmps)).run P w = .ok Vs w∧Vs.length=vs.length ∧
      ∀ i,i < vs.length→VR I w st.b m (vs.getD i .bad) (Vs.getD i undef):=by
  intro rs vs hr
  induction hr with
  | nil=>exact ⟨[],by simp,rfl,fun i hi=>absurd hi (Nat.not_lt_zero i)⟩
  | @tmp t v rs vs e _ ih =>
    obtain ⟨Vs,h1,h2,h3⟩:=ih
    refine ⟨a.tmps.getD t undef :: Vs,?_,by simp [h2],fun i hi=>?_⟩
    · simp only [List.mapM_cons,Sem.run_bind] at h1 ⊢
      rw [show (rvRun a.tmps (.tmp t)).run P w = .ok (a.tmps.getD t undef) w from rfl]
      simp only [Result.andThen_ok,h1]
      rfl
    · cases i with
      | zero=>have:=h.tmp t;rw [e] at this;exact this
      | succ i=>exact h3 i (by simpa using hi)
  | @cell x t i s u j o v rs vs ht e hu hm hp _ ih =>
    obtain ⟨Vs,h1,h2,h3⟩:=ih
    have hx:=h.tmp x
    rw [e] at hx
    obtain ⟨ad,e1,k0,k⟩:=hx.op_inv
    obtain ⟨rfl,hj⟩:=k hu hm
    obtain ⟨V,v1,v2,v3,v4⟩:=h.wr.var hm hj
    obtain ⟨V',q1,q2⟩:=load_part (P:=P) ht v1 v2 v4 hp
    have hld:(rvRun a.tmps (.cell x t)).run P w = .ok V' w:=by
      unfold rvRun
      simp only
      rw [e1]
      have:(loadVar t ⟨(m s).g,((m s).base + j) * (m s).sz + o,none⟩).run P w = .ok V' w:=by
        simpa [Instr.loadAt,Instr.sureAddr] using q1
      simp [asAddr,this]
    refine ⟨V' :: Vs,?_,by simp [h2],fun i hi=>?_⟩
    · simp only [List.mapM_cons,Sem.run_bind] at h1 ⊢
      rw [hld]
      simp only [Result.andThen_ok,h1]
      rfl
    · cases i with
      | zero=>exact q2
      | succ i=>exact h3 i (by simpa using hi)
theorem run_results {fn:Func} {tmps:Array Value} {Vs:List Value} (h:(fn.results.toList.mapM (rvRun tmps)).run P w = .ok Vs w) :
    (results fn tmps).run P w = .ok (if h:Vs.length=1 then Vs[0] else .tuple Vs.toArray) w:=by
  have e:results fn tmps=(do let vs←fn.results.mapM (rvRun tmps);pure (if h:vs.size=1 then vs[0] else .tuple vs)):=rfl
  rw [e,Array.mapM_eq_mapM_toList]
  simp [Sem.run_bind,h]
end
end Go.AVL
end

section
namespace Go.AVL
open Go.RowKit
set_option linter.unusedVariables false
set_option linter.unusedSimpArgs false
def Fin (P:Program) (fn:Func) (res:List AV) (st:St):Prop:=∃ vs ss,Rs P st fn.results.toList vs∧SnapL st ss vs res
def FinF (P:Program) (fn:Func) (pre post:List AV) (row:Row) (e:TypeId) (st:St):Prop:=∃ s u,Rs P st fn.results.toList (pre ++ .os s u 0 row.len true :: post)∧st.b s=⟨u, .own,row,e⟩
def FinW (P:Program) (fn:Func) (p:Nat) (rout:Row) (e:TypeId) (res:List AV) (st:St):Prop:=∃ vs,Rs P st fn.results.toList vs∧vs=res∧st.b p=⟨1, .win,rout,e⟩
section
variable {P : Program} {f : FuncId} {fn : Func} {code : Code}
theorem WR.any {n n':Nat} {w0 w:World} {A:Nat→Prop} {wg:Option (Nat×Nat×Nat)} {I:Nat→Prop} {m:Nat→Reg} {B:Nat→Blk} (h:WR (⟨n,w0,A,wg⟩:Ctx P) I m B w):WR (⟨n',w0,A,wg⟩:Ctx P) I m B w :=
  ⟨h.os,h.tape,h.output,h.size,h.frame,h.frameW,h.imm,h.blk,h.inj⟩
theorem mk_vr {I:Nat→Prop} {w:World} {B:Nat→Blk} {m:Nat→Reg} {vs:List AV} {Vs:List Value} (hl:Vs.length=vs.length) (h : ∀ i,i < vs.length→VR I w B m (vs.getD i .bad) (Vs.getD i undef)) :
    VR I w B m (AV.mk vs) (if h:Vs.length=1 then Vs[0] else .tuple Vs.toArray):=by
  by_cases h1:Vs.length=1
  · rw [dif_pos h1]
    match vs,hl ▸ h1 with
    | [v],_ =>
      have:=h 0 (by simp)
      have e:Vs.getD 0 undef=Vs[0]:=by simp [List.getD,h1]
      rw [e] at this
      exact this
  · rw [dif_neg h1]
    have e:AV.mk vs = .tup vs:=by
      match vs with
      | []=>rfl
      | [v]=>simp at hl;exact absurd hl h1
      | v :: u :: vs=>rfl
    rw [e]
    refine .tup _ _ (by simp [hl]) fun i hi=>?_
    have:=h i hi
    simpa [Array.getD_eq_getD_getElem?,List.getD_eq_getElem?_getD] using this
theorem entry_sr {args:List AV} {io:Io} {A:Nat→Prop} {wg:Option (Nat×Nat×Nat)} {w:World} {m:Nat→Reg} {V:Array Value} {n:Nat} (hn:args.length≤n)
    (hw:WR (⟨0,w,A,wg⟩:Ctx P) A m io.bIn w) (hs:V.size=args.length) (hv : ∀ i,i < args.length→VR A w io.bIn m (args.getD i .bad) (V.getD i undef)) :
    SRx (⟨n,w,A,wg⟩:Ctx P) A m (entry args io) {tmps:=V ++ Array.replicate (n - V.size) undef,defers:=[]} w:=by
  refine ⟨hw.any,rfl,by simp;omega,fun x=>?_⟩
  show VR A w io.bIn m (args.getD x .bad) _
  by_cases hx:x < args.length
  · have:=hv x hx
    rwa [show (V ++ Array.replicate (n - V.size) undef).getD x undef=V.getD x undef by
      rw [Array.getD_eq_getD_getElem?,Array.getD_eq_getD_getElem?,Array.getElem?_append_left (by omega)]]
  · rw [List.getD_eq_getElem?_getD,List.getElem?_eq_none (by omega)]
    exact .bad _
theorem call_of_code (hf:FnOk P f fn code) {args:List AV} {io:Io} (hl:args.length≤fn.ntmps) {F:St→Prop} (h:XC P code (entry args io) (Post F))
    {A:Nat→Prop} {wg:Option (Nat×Nat×Nat)} {w:World} {m:Nat→Reg} {V:Array Value} (hw:WR (⟨0,w,A,wg⟩:Ctx P) A m io.bIn w) (hs:V.size=args.length) (hv : ∀ i,i < args.length→VR A w io.bIn m (args.getD i .bad) (V.getD i undef))
    {K:Value→World→Prop} (hK : ∀ st a w',F st→SR (⟨fn.ntmps,w,A,wg⟩:Ctx P) st a w'→∃ v,(results fn a.tmps).run P w' = .ok v w'∧K v w'):CallW P f V w K:=by
  refine callW_of_calls hf (calls_of_wp hf.eq hf.body ?_)
  refine (code_sound (c:=⟨fn.ntmps,w,A,wg⟩) hf.mix code hf.dst).1 h (fun o s a w' hp hsr=>?_) _ _ ⟨A,m,entry_sr hl hw hs hv⟩
  have hd:a.defers = []:=by obtain ⟨I,m,hx⟩:=hsr;exact hx.def0
  cases o with
  | normal=>obtain ⟨v,h1,h2⟩:=hK s a w' hp hsr;exact ⟨hd,v,h1,h2⟩
  | ret=>obtain ⟨v,h1,h2⟩:=hK s a w' hp hsr;exact ⟨hd,v,h1,h2⟩
  | exit id=>exact hp.elim
  | goto l=>exact hp.elim
theorem WR.close {n:Nat} {w0 w:World} {A:Nat→Prop} {wg:Option (Nat×Nat×Nat)} {I:Nat→Prop} {m:Nat→Reg} {B:Nat→Blk} (h:WR (⟨n,w0,A,wg⟩:Ctx P) I m B w) (X:Nat→Prop) (B':Nat→Blk) (m':Nat→Reg)
    (hblk : ∀ s,BR (⟨0,w0,A,wg⟩:Ctx P) (fun k=>I k∨(w0.heap.size≤k∧k < w.heap.size∧¬ X k)) w B' m' s) (hinj : ∀ s s',act B' m' s→act B' m' s'→(m' s).g=(m' s').g→s=s') :
    WR (⟨0,w0,A,wg⟩:Ctx P) (fun k=>I k∨(w0.heap.size≤k∧k < w.heap.size∧¬ X k)) m' B' w :=
  ⟨h.os,h.tape,h.output,h.size,h.frame,h.frameW,fun k hk=>hk.elim (fun hk=>h.imm k hk) fun hk=>⟨hk.2.1, .inr hk.1⟩,hblk,hinj⟩
theorem cs_pure (hf:FnOk P f fn code) {args res:List AV} (hl:args.length≤fn.ntmps) (h:XC P code (entry args .no) (Post (Fin P fn res))):CS P f args .no res:=by
  intro A wg w m V hwg hw hs hv
  obtain rfl:=hwg rfl
  refine call_of_code hf hl h hw hs hv fun st a w' hF hsr=>?_
  obtain ⟨I,m',hx⟩:=hsr
  obtain ⟨vs,ss,hr,hsn⟩:=hF
  obtain ⟨Vs,h1,h2,h3⟩:=hr.run hx
  refine ⟨_,run_results h1,_,m',hx.wr.close (fun _=>False) noB m' (fun s hd=>absurd rfl hd) (fun s s' h _ _=>by rcases h.1 with h|h <;> cases h),(fun p r1 r2 e h=>by cases h),?_⟩
  have hnw : ∀ s,s ∈ ss→(st.b s).mode≠.win∨True:=fun _ _=>.inr trivial
  refine mk_vr (by rw [h2,hsn.1]) fun i hi=>?_
  have:=(hsn.2 i (by rw [hsn.1];exact hi)).vr (B':=noB) (m':=m') hx.wr (h3 i (by rw [hsn.1];exact hi))
  refine VR.grow this (fun k hk=>?_) fun _ _=>rfl
  rcases hk with hk|hk
  · exact .inl hk
  · have hlt:=slot_lt hx.wr hk
    obtain ⟨s,hs',hd,hz,rfl⟩:=hk
    rcases hx.wr.blk s hd with h0|⟨cur,h5,_,h4⟩
    · exact absurd h0 hz
    · unfold BM at h4
      cases hmo:(st.b s).mode with
      | dead=>exact absurd hmo hd
      | win=>rw [hmo] at h4;cases h4.2.2.1
      | own=>rw [hmo] at h4;exact .inr ⟨h4.2.2.2.2.2,hlt,fun h=>h⟩
      | froz=>rw [hmo] at h4;exact .inl h4
theorem cs_fresh (hf:FnOk P f fn code) {args:List AV} {row:Row} {e:TypeId} {pre post:List AV} (hpre:FlL pre) (hpost:FlL post) (hl:args.length≤fn.ntmps) (hrc:RowCl row) (h:XC P code (entry args .no) (Post (FinF P fn pre post row e))) :
    CS P f args ⟨none,some (row,e)⟩ (pre ++ .os FRS 1 0 row.len true :: post):=by
  intro A wg w m V hwg hw hs hv
  obtain rfl:=hwg rfl
  refine call_of_code (io:=.no) hf hl h hw hs hv fun st a w' hF hsr=>?_
  obtain ⟨I,m',hx⟩:=hsr
  obtain ⟨s,u,hr,hb⟩:=hF
  obtain ⟨Vs,h1,h2,h3⟩:=hr.run hx
  have hB : ∀ x,(Io.bOut ⟨none,some (row,e)⟩ x)=if x=FRS then ⟨1, .own,row,e⟩ else noB x:=fun x=>by
    show upd noB FRS _ x=_
    by_cases hx:x=FRS
    · subst hx;rw [upd_same,if_pos rfl]
    · rw [upd_ne _ _ hx,if_neg hx]
  have hown:=hx.wr.blk s (by rw [hb];simp)
  rw [hb] at hown
  have htr : ∀ cur b z,RowR I w' st.b m' row cur b z→RowR (fun k=>I k∨(w.heap.size≤k∧k < w'.heap.size∧¬ k=(m' s).g)) w' (Io.bOut ⟨none,some (row,e)⟩) (upd m' FRS (m' s)) row cur b z:=by
    intro cur b z hr i hi
    obtain ⟨V,v1,v2,v3,v4⟩:=hr i hi
    refine ⟨V,?_,v2,v3,v4⟩
    have hc:Cl (row.get i):=by cases row with|ints k l=>exact .int|vals es=>exact hrc i hi
    exact hc.vr v1 (fun _ k=>.inl k) fun _ _ _=>rfl
  refine ⟨_,run_results h1,_,upd m' FRS (m' s),hx.wr.close (fun k=>k=(m' s).g) _ _ (fun x hd=>?_) (fun x x' hx1 hx2 _=>?_),(fun p r1 r2 e h=>by cases h),?_⟩
  · by_cases hxx:x=FRS
    · subst hxx
      rw [hB,if_pos rfl,upd_same]
      rcases hown with h0|⟨cur,g1,g2,g3⟩
      · exact .inl h0
      · refine .inr ⟨cur,g1,htr _ _ _ g2,?_⟩
        obtain ⟨b1,b2,b3,b4,b5,b6⟩:=g3
        exact ⟨b1,b2,b3,b4,fun hi=>hi.elim b5 fun hi=>hi.2.2 rfl,b6⟩
    · rw [hB,if_neg hxx] at hd
      exact absurd rfl hd
  · have hh : ∀ y,act (Io.bOut ⟨none,some (row,e)⟩) (upd m' FRS (m' s)) y→y=FRS:=by
      intro y hy
      by_cases e':y=FRS
      · exact e'
      · unfold act at hy
        rw [hB,if_neg e'] at hy
        rcases hy.1 with h|h <;> cases h
    rw [hh _ hx1,hh _ hx2]
  · refine mk_swap hpre hpost (fun v hv=>?_) (mk_vr h2 h3)
    obtain ⟨ad,cap,e1,k0,k⟩:=VR.os_inv (show VR I w' st.b m' (.os s u 0 row.len true) _ from hv)
    rw [e1]
    rw [hb] at k
    obtain ⟨k1,k2,k3,k4⟩:=k rfl (by simp)
    refine .os FRS 1 0 _ true ad cap (by rw [hB,if_pos rfl];exact Nat.le_refl _) ?_
    rw [hB,if_pos rfl,upd_same]
    intro _ _
    exact ⟨k1,k2,k3,k4⟩
theorem cs_win (hf:FnOk P f fn code) {args res:List AV} {p:Nat} {k:IntKind} {l l':List Int} {e:TypeId} (hl:args.length≤fn.ntmps) (hll:l'.length=l.length) (hfl:Flat (AV.mk res))
    (h:XC P code (entry args ⟨some (p, .ints k l, .ints k l',e),none⟩) (Post (FinW P fn p (.ints k l') e res))):CS P f args ⟨some (p, .ints k l, .ints k l',e),none⟩ res:=by
  intro A wg w m V hwg hw hs hv
  refine call_of_code hf hl h hw hs hv fun st a w' hF hsr=>?_
  obtain ⟨I,m',hx⟩:=hsr
  obtain ⟨vs,hr,rfl,hb⟩:=hF
  obtain ⟨Vs,h1,h2,h3⟩:=hr.run hx
  have hB:(Io.bOut ⟨some (p, .ints k l, .ints k l',e),none⟩)=upd noB p ⟨1, .win, .ints k l',e⟩:=rfl
  have hBi:(Io.bIn ⟨some (p, .ints k l, .ints k l',e),none⟩)=upd noB p ⟨1, .win, .ints k l,e⟩:=rfl
  have hown:=hx.wr.blk p (by rw [hb];simp)
  rw [hb] at hown
  have hin:=hw.blk p (by rw [hBi,upd_same];simp)
  rw [hBi,upd_same] at hin
  have htr : ∀ cur b z,RowR I w' st.b m' (.ints k l') cur b z→RowR (fun k=>I k∨(w.heap.size≤k∧k < w'.heap.size∧¬ False)) w' (Io.bOut ⟨some (p, .ints k l, .ints k l',e),none⟩) m' (.ints k l') cur b z:=by
    intro cur b z hr i hi
    obtain ⟨V,v1,v2,v3,v4⟩:=hr i hi
    exact ⟨V,Cl.vr (v:=.int k _) .int v1 (fun _ k=>.inl k) fun _ _ _=>rfl,v2,v3,v4⟩
  have hlen:(Row.ints k l').len=l.length:=hll
  refine ⟨_,run_results h1,_,m',hx.wr.close (fun _=>False) _ _ (fun x hd=>?_) (fun x x' hx1 hx2 _=>?_),fun p' r1 r2 e' hio hr2=>?_,?_⟩
  · rw [hB] at hd ⊢
    by_cases hxx:x=p
    · subst hxx
      rw [upd_same]
      rcases hown with h0|⟨cur,g1,g2,g3⟩
      · exact .inl h0
      · refine .inr ⟨cur,g1,htr _ _ _ g2,?_⟩
        obtain ⟨b1,b2,b3,b4⟩:=g3
        refine ⟨fun hi=>hi.elim b1 fun hi=>?_,b2,b3,b4⟩
        obtain ⟨cur0,cur1,e',f1,f2,_⟩:=hw.frameW _ _ _ b3
        have:=lt_of_some f1
        exact absurd hi.1 (Nat.not_le.2 this)
    · rw [upd_ne _ _ hxx] at hd
      exact absurd rfl hd
  · have hh : ∀ y,act (Io.bOut ⟨some (p, .ints k l, .ints k l',e),none⟩) m' y→y=p:=by
      intro y hy
      by_cases e':y=p
      · exact e'
      · unfold act at hy
        rw [hB,upd_ne _ _ e'] at hy
        rcases hy.1 with h|h <;> cases h
    rw [hh _ hx1,hh _ hx2]
  · simp only [Option.some.injEq,Prod.mk.injEq] at hio
    obtain ⟨rfl,rfl,rfl,rfl⟩:=hio
    have hpos:0 < l.length:=by rw [hlen] at hr2;omega
    rcases hown with h0|⟨cur,g1,g2,g3⟩
    · exact absurd h0.2 (by show (Row.ints k l').len≠0;rw [hlen];omega)
    rcases hin with h0|⟨cur0,i1,i2,i3⟩
    · exact absurd h0.2 (by show l.length≠0;omega)
    obtain ⟨V1,a1,a2,_,_⟩:=g2 0 (by show 0 < (Row.ints k l').len;rw [hlen];exact hpos)
    obtain ⟨V2,c1,c2,_,_⟩:=i2 0 hpos
    have s1:(m' p).sz=1:=by rw [← a2,(show VR I w' st.b m' (.int k _) V1 from a1).int_inv];rfl
    have s2:(m p).sz=1:=by rw [← c2,(show VR A w _ m (.int k _) V2 from c1).int_inv];rfl
    have e1:=g3.2.2.1
    have e2:=i3.2.2.1
    have e3:=g3.2.1
    have e4:=i3.2.1
    simp only at e1 e2 e3 e4
    rw [e1] at e2
    simp only [Option.some.injEq,Prod.mk.injEq,s1,s2,Nat.mul_one] at e2
    obtain ⟨q1,q2,q3⟩:=e2
    have e4':(m p).cap=l.length:=e4
    have e3':(m' p).cap=l.length:=e3.trans hlen
    cases hm1:m' p with
    | mk g1 b1 c1 z1 =>
      cases hm2:m p with
      | mk g2 b2 c2 z2 =>
        rw [hm1] at q1 q2 s1 e3'
        rw [hm2] at q1 q2 s2 e4'
        simp only at q1 q2 s1 s2 e3' e4'
        rw [q1,q2,s1,s2,e3',e4']
  · have:=mk_vr h2 h3
    exact hfl.vr this
end
end Go.AVL
end

section
namespace Go.AVL
open Go.RowKit
set_option linter.unusedVariables false
structure WC (P:Program) (c:Code) (st:St) (Q:Out→St→Prop):Prop where
  x:XC P c st Q
structure WO (P:Program) (ops:Array Oper) (os:List Oper) (st:St) (K:St→Prop):Prop where
  x:XO P ops os st K
structure WD (P:Program) (ops:Array Oper) (fr:List (Option (List Nat)×List Nat)) (os:List Oper) (st:St) (K:St→Prop):Prop where
  x:XG P ops os fr st K
structure Ends (F:St→Prop) (st:St):Prop where
  x:F st
def Mode.live:Mode→Bool
  | .dead=>false
  | _=>true
def Mode.wr:Mode→Bool
  | .own | .win=>true
  | _=>false
theorem Mode.live_ne {m:Mode} (h:m.live=true):m≠.dead:=by intro e;subst e;cases h
theorem Mode.wr_or {m:Mode} (h:m.wr=true):m = .own∨m = .win:=by cases m <;> simp [Mode.wr] at h <;> simp
def notBad:AV→Bool
  | .bad | .nob _=>false
  | _=>true
theorem notBad_ne {v:AV} (h:notBad v=true):v.isBad=false:=by cases v <;> first|rfl|cases h
section
variable {P : Program} {st : St} {Q : Out → St → Prop} {K : St → Prop}
theorem WC.mono {c:Code} {Q':Out→St→Prop} (h:WC P c st Q) (hq : ∀ o s,Q o s→Q' o s):WC P c st Q':=⟨h.x.mono hq⟩
theorem X.seq {x y:Code} (h:WC P x st (thenO (fun s=>WC P y s Q) Q)):WC P (.seq x y) st Q:=⟨.inl (h.x.mono (thenO_mono (fun _ h=>h.x) fun _ _ h=>h))⟩
theorem X.sem {x y:Code} (h:ByHand P (.seq x y) st Q):WC P (.seq x y) st Q:=⟨.inr h⟩
theorem X.loop {c:Code} (h:WC P c st (thenO (fun s=>WC P (.loop c) s Q) Q)):WC P (.loop c) st Q:=⟨XC.loop (h.x.mono (thenO_mono (fun _ h=>h.x) fun _ _ h=>h))⟩
theorem X.still {id:Nat} {ops:Array Oper} (h:WO P ops ops.toList st (Q .normal)):WC P (.region id ops false) st Q:=⟨h.x⟩
theorem X.drawn {id:Nat} {ops:Array Oper} (h:WD P ops [] ops.toList st (Q .normal)):WC P (.region id ops true) st Q:=⟨h.x⟩
theorem X.skip (h:Q .normal st):WC P .skip st Q:=⟨h⟩
theorem X.ret (h:Q .ret st):WC P .ret st Q:=⟨h⟩
theorem X.exit {id:Nat} (h:Q (.exit id) st):WC P (.exit id) st Q:=⟨h⟩
theorem X.goto {l:Nat} (h:Q (.goto l) st):WC P (.goto l) st Q:=⟨h⟩
theorem X.label {l:Nat} (h:Q .normal st):WC P (.label l) st Q:=⟨h⟩
theorem X.block {id:Nat} {x:Code} (h:WC P x st (blockO id Q)):WC P (.block id x) st Q:=⟨h.x⟩
theorem X.condT {c:Operand} {x y:Code} (hc:Ev st c (.bool true)) (h:WC P x st Q):WC P (.cond c x y) st Q:=⟨⟨true,hc,(fun _=>h.x),fun e=>by cases e⟩⟩
theorem X.condF {c:Operand} {x y:Code} (hc:Ev st c (.bool false)) (h:WC P y st Q):WC P (.cond c x y) st Q:=⟨⟨false,hc,(fun e=>by cases e),fun _=>h.x⟩⟩
theorem X.cond {c:Operand} {x y:Code} {b:Bool} (hc:Ev st c (.bool b)) (h1:b=true→WC P x st Q) (h2:b=false→WC P y st Q):WC P (.cond c x y) st Q:=⟨⟨b,hc,fun e=>(h1 e).x,fun e=>(h2 e).x⟩⟩
theorem X.condP {c:Operand} {x y:Code} {p:Prop} [Decidable p] (hc:Ev st c (.bool (decide p))) (h1:p→WC P x st Q) (h2 : ¬ p→WC P y st Q):WC P (.cond c x y) st Q :=
  ⟨⟨decide p,hc,fun e=>(h1 (of_decide_eq_true e)).x,fun e=>(h2 (of_decide_eq_false e)).x⟩⟩
theorem X.condE {c:Operand} {x y:Code} {p q:Int} (hc:Ev st c (.bool (p == q))) (h1:p=q→WC P x st Q) (h2:p≠q→WC P y st Q):WC P (.cond c x y) st Q :=
  ⟨⟨p == q,hc,fun e=>(h1 (by simpa using e)).x,fun e=>(h2 (by simpa using e)).x⟩⟩
theorem X.condN {c:Operand} {x y:Code} {p q:Int} (hc:Ev st c (.bool (p != q))) (h1:p≠q→WC P x st Q) (h2:p=q→WC P y st Q):WC P (.cond c x y) st Q :=
  ⟨⟨p != q,hc,fun e=>(h1 (by simpa using e)).x,fun e=>(h2 (by simpa using e)).x⟩⟩
theorem B.out {id:Nat} (h:Q .normal st):blockO id Q (.exit id) st:=⟨fun _=>h,fun e=>absurd rfl e⟩
theorem B.past {id id':Nat} (hn:Nat.beq id' id=false) (h:Q (.exit id') st):blockO id Q (.exit id') st:=⟨(fun e=>by subst e;rw [Nat.beq_refl] at hn;cases hn),fun _=>h⟩
theorem O.nil {ops:Array Oper} (h:K st):WO P ops [] st K:=⟨h⟩
theorem D.nil {ops:Array Oper} {fr:List (Option (List Nat)×List Nat)} (hd:comOk ops fr.reverse=true) (h:K st):WD P ops fr [] st K:=⟨⟨hd,h⟩⟩
variable {ops : Array Oper} {os : List Oper} {d ty : Nat} {op : Op} {pos : String} {aft : Array Edge} {v : AV} {R : List Nat} {b : Blk}
theorem O.pu (h:Pu P st d op v none R) (k:WO P ops os (st.put d v) K):WO P ops (⟨some d,op,ty,pos,aft,none⟩ :: os) st K:=⟨NxI.pu (.run .no h fun e=>by cases e) k.x⟩
theorem O.puB (h:Pu P st d op v (some b) R) (k:WO P ops os ((st.putb d b).put d v) K):WO P ops (⟨some d,op,ty,pos,aft,none⟩ :: os) st K:=⟨NxI.pu (.run .no h fun e=>by cases e) k.x⟩
theorem O.ef {B:Nat→Blk} (h:Ef P st d op v B) (k:WO P ops os (St.put ⟨st.t,B⟩ d v) K):WO P ops (⟨some d,op,ty,pos,aft,none⟩ :: os) st K:=⟨NxI.ef .no h k.x⟩
theorem O.ef0 {B:Nat→Blk} (h:Ef P st 0 op v B) (k:WO P ops os ⟨st.t,B⟩ K):WO P ops (⟨none,op,ty,pos,aft,none⟩ :: os) st K:=⟨NxI.ef .no h k.x⟩
theorem O.nilc {t t':TypeId} {i:TInfo} {e:TypeId} {x:Operand} {len:Nat} [h:TI P t i] (hd:i.d = .sl e) (hx:Ev st x v) (hs:SlLen v len) (k : ∀ b,(b=true→len=0)→WO P ops os (st.put d (.bool b)) K) :
    WO P ops (⟨some d, .binOp .eql t x (.const (.slice none 0 0)) t',ty,pos,aft,none⟩ :: os) st K:=⟨NxI.nilc .no rfl hd hx hs fun b hb=>(k b hb).x⟩
variable {j : Nat} {want : Bool} {t : Nat}
theorem G.pu (hg:Wt ops st (some (j,want)) true) (h:Pu P st d op v none R) (k:WO P ops os (st.put d v) K):WO P ops (⟨some d,op,ty,pos,aft,some (j,want)⟩ :: os) st K:=⟨NxI.pu (.run hg h fun e=>by cases e) k.x⟩
theorem G.puB (hg:Wt ops st (some (j,want)) true) (h:Pu P st d op v (some b) R) (k:WO P ops os ((st.putb d b).put d v) K):WO P ops (⟨some d,op,ty,pos,aft,some (j,want)⟩ :: os) st K:=⟨NxI.pu (.run hg h fun e=>by cases e) k.x⟩
theorem G.skip (hg:Wt ops st (some (j,want)) false) (k:WO P ops os (st.put d .bad) K):WO P ops (⟨some d,op,ty,pos,aft,some (j,want)⟩ :: os) st K:=⟨NxI.pu (.skip hg .bad) k.x⟩
theorem G.skipN {b:Bool} (hg:Wt ops st (some (j,want)) false) (k:WO P ops os (st.put d (.nob b)) K):WO P ops (⟨some d,op,ty,pos,aft,some (j,want)⟩ :: os) st K:=⟨NxI.pu (.skip hg .nob) k.x⟩
theorem G.ef {B:Nat→Blk} (hg:Wt ops st (some (j,want)) true) (h:Ef P st d op v B) (k:WO P ops os (St.put ⟨st.t,B⟩ d v) K):WO P ops (⟨some d,op,ty,pos,aft,some (j,want)⟩ :: os) st K:=⟨NxI.ef hg h k.x⟩
theorem G.maybe (h:Pu P st d op v none R) (k:WO P ops os (st.put d .bad) K):WO P ops (⟨some d,op,ty,pos,aft,some (j,want)⟩ :: os) st K:=⟨NxI.maybe h k.x⟩
theorem W.n {x:Nat} (hd:dstAt ops j=some x) (ht:st.t x = .nob want):Wt ops st (some (j,want)) false:=.nob hd ht
theorem W.of {x:Nat} {p:Bool} (hd:dstAt ops j=some x) (ht:st.t x = .bool p):Wt ops st (some (j,want)) (p == want):=.yes hd ht
variable {n1 k : Nat}
variable {fr : List (Option (List Nat) × List Nat)}
theorem ag_of {s:St} {o:Oper} (h : ∀ x ∈ namesOf ops o,s.t x=st.t x):Ag st s o.op:=by
  intro x hx v hv
  cases hv with
  | @tmp t _ e =>
    refine .tmp ?_
    rw [h t (by
      unfold namesOf
      exact List.mem_append_left _ (List.mem_filterMap.2 ⟨.tmp t,hx,rfl⟩))]
    exact e
  | int=>exact .int
  | bool=>exact .bool
  | str=>exact .str
  | nilI=>exact .nilI
  | nilV=>exact .nilV
  | fn=>exact .fn
  | fnc=>exact .fnc
theorem wt_of {s:St} {o:Oper} (h : ∀ x ∈ namesOf ops o,s.t x=st.t x) {p:Bool} (hw:Wt ops st o.guard p):Wt ops s o.guard p:=by
  have hn : ∀ j want t,o.guard=some (j,want)→dstAt ops j=some t→s.t t=st.t t:=fun j want t hg hd=>h t (by
    unfold namesOf
    rw [hg]
    simp [hd])
  generalize o.guard=g at hw hn
  cases hw with
  | no=>exact .no
  | yes hd ht=>exact .yes hd (by rw [hn _ _ _ rfl hd];exact ht)
  | nob hd ht=>exact .nob hd (by rw [hn _ _ _ rfl hd];exact ht)
theorem puto_t (s:St) (d:Option Nat) (v:AV) (x:Nat):(s.puto d v).t x=if d=some x then v else s.t x:=by
  cases d with
  | none=>simp [St.puto]
  | some d =>
    show upd s.t d v x=_
    by_cases e:x=d
    · subst e;rw [upd_same,if_pos rfl]
    · rw [upd_ne _ _ e,if_neg (fun h=>e (Option.some.inj h).symm)]
theorem puto_b (s:St) (d:Option Nat) (v:AV):(s.puto d v).b=s.b:=by cases d <;> rfl
theorem puto_tt (s st:St) (d:Option Nat) (v:AV) (x:Nat):(s.puto d v).t x=if d=some x then (st.puto d v).t x else s.t x:=by
  rw [puto_t,puto_t]
  split <;> rfl
theorem Nd.pu {o:Oper} (hg:Wt ops st o.guard true) (h:Pu P st (o.dst.getD 0) o.op v none R):Nd P ops st o (fun s=>s.puto o.dst v) (some []) R :=
  ⟨fun s _ ht hb K hk=>.pu (.run (wt_of ht hg) (h.congr (ag_of ht) hb (fun e=>absurd rfl e)) fun _=>rfl) hk,nofun,fun _ _ s x=>puto_tt s st _ v x,fun w hw s x=>by cases hw;rw [puto_b];simp⟩
theorem Nd.puB {o:Oper} (hg:Wt ops st o.guard true) (ho:o.dst=some d) (h:Pu P st d o.op v (some b) R):Nd P ops st o (fun s=>(s.putb d b).puto o.dst v) (some [d]) (d :: R):=by
  refine ⟨fun s _ ht hb K hk=>.pu (v:=v) (ob:=some b) (R:=R) (.run (wt_of ht hg) ?_ (fun e=>by rw [ho] at e;cases e)) ?_,nofun,fun _ _ s x=>?_,fun w hw s x=>?_⟩
  · rw [ho]
    exact h.congr (ag_of ht) (fun x hx=>hb x (List.mem_cons_of_mem _ hx)) fun _=>hb d (List.mem_cons_self ..)
  · unfold St.eff
    rw [ho] at hk ⊢
    exact hk
  · exact puto_tt (s.putb d b) (st.putb d b) _ v x
  · cases hw
    rw [puto_b,puto_b]
    show upd s.b d b x=if x ∈ [d] then upd st.b d b x else s.b x
    by_cases e:x=d
    · subst e;simp [upd_same]
    · rw [upd_ne _ _ e,if_neg (by simpa using e)]
theorem Nd.skipV {o:Oper} {v:AV} (hg:Wt ops st o.guard false) (hu:Vu v):Nd P ops st o (fun s=>s.puto o.dst v) (some []) [] :=
  ⟨fun s _ ht hb K hk=>.pu (ob:=none) (R:=[]) (.skip (wt_of ht hg) hu) hk,nofun,fun _ _ s x=>puto_tt s st _ _ x,fun w hw s x=>by cases hw;rw [puto_b];simp⟩
theorem Nd.skip {o:Oper} (hg:Wt ops st o.guard false):Nd P ops st o (fun s=>s.puto o.dst .bad) (some []) []:=Nd.skipV hg .bad
theorem Nd.maybe {o:Oper} (h:Pu P st (o.dst.getD 0) o.op v none R):Nd P ops st o (fun s=>s.puto o.dst .bad) (some []) R :=
  ⟨fun s _ ht hb K hk=>.maybe (h.congr (ag_of ht) hb (fun e=>absurd rfl e)) hk,nofun,fun _ _ s x=>puto_tt s st _ _ x,fun w hw s x=>by cases hw;rw [puto_b];simp⟩
structure EfC (P:Program) (st:St) (d:Nat) (op:Op) (v:AV) (g:(Nat→Blk)→Nat→Blk) (W R:List Nat):Prop where
  run : ∀ s,Ag st s op→(∀ x ∈ R,s.b x=st.b x)→Ef P s d op v (g s.b)
  wr : ∀ B x,g B x=if x ∈ W then g st.b x else B x
theorem Nd.efc {o:Oper} {g:(Nat→Blk)→Nat→Blk} {W:List Nat} (hg:Wt ops st o.guard true) (h:EfC P st (o.dst.getD 0) o.op v g W R):Nd P ops st o (fun s=>St.puto ⟨s.t,g s.b⟩ o.dst v) (some W) R :=
  ⟨fun s _ ht hb K hk=>.ef (wt_of ht hg) (h.run s (ag_of ht) hb) hk,nofun,fun _ _ s x=>puto_tt ⟨s.t,g s.b⟩ ⟨st.t,g st.b⟩ _ v x,fun w hw s x=>by cases hw;rw [puto_b,puto_b];exact h.wr s.b x⟩
theorem Nd.any {o:Oper} {B:Nat→Blk} (hg:Wt ops st o.guard true) (h:Ef P st (o.dst.getD 0) o.op v B):Nd P ops st o (fun _=>St.puto ⟨st.t,B⟩ o.dst v) none [] :=
  ⟨fun s hs _ _ K hk=>by rw [hs rfl];exact .ef hg h hk,fun _ _=>rfl,nofun,nofun⟩
theorem C.store {t i x y s u j o e1 row'} [h:TI P t i] (hx:Ev st x (.op s u j o)) (hu:(st.b s).ver=u) (hm:(st.b s).mode.wr=true) (hy:Ev st y v) (hi:v.inVar=true) (hl:v.cells.length=i.size) (hp:PutV ((st.b s).row.get j) o v e1)
    (hr:RowSet (st.b s).row j e1 row'):EfC P st d (.store t x y) .bad (fun B=>upd B s ((st.b s).setRow row')) [s] [s]:=by
  refine ⟨fun q ha hb=>?_,fun B x=>?_⟩
  · have e:=hb s (List.mem_singleton.2 rfl)
    unfold Ag at ha
    rw [← e]
    rw [← e] at hu hm hp hr
    exact .store (ha _ (by simp [Op.operands]) _ hx) hu (Mode.wr_or hm) (ha _ (by simp [Op.operands]) _ hy) hi hl hp hr
  · by_cases e:x=s
    · subst e;simp [upd_same]
    · rw [upd_ne _ _ e,if_neg (by simpa using e)]
def frzTo (ss:List Nat) (B0 B:Nat→Blk):Nat→Blk:=fun s=>match memB ss s with
  | true=>⟨(B0 s).ver,(B0 s).mode.fz,(B0 s).row,(B0 s).e⟩
  | false=>B s
theorem C.callZ {args ats f vs as res ss} (hv:EvL st args.toList vs) (hs:SnapL st ss vs as) (hc:CS P f as .no res) (hcl:Cl (AV.mk res)) (hw : ∀ s,s ∈ ss→(st.b s).mode≠.win) :
    EfC P st d (.call ⟨.value (.func f),args,ats⟩) (AV.mk res) (frzTo ss st.b) ss ss:=by
  have hm : ∀ x,memB ss x=true ↔ x ∈ ss:=fun x=>memB_iff
  refine ⟨fun q ha hb=>?_,fun B x=>?_⟩
  · have e:frzTo ss st.b q.b=frz ss q.b:=by
      funext x
      unfold frzTo frz
      cases hx:memB ss x with
      | false=>rfl
      | true=>simp only;rw [hb x ((hm x).1 hx)]
    rw [e]
    unfold Ag at ha
    refine .callZ .fn (hv.congr fun x hx=>ha x (by simp [Op.operands,Call.operands] at hx ⊢;simp [hx])) (by rw [List.append_nil];exact ⟨hs.1,fun i hi=>(hs.2 i hi).congr hb⟩) hc hcl fun s h=>by rw [hb s h];exact hw s h
  · unfold frzTo
    cases hx:memB ss x with
    | false=>rw [if_neg (fun h=>by rw [(hm x).2 h] at hx;cases hx)]
    | true=>rw [if_pos ((hm x).1 hx)]
theorem D.pu (h:Pu P st d op v none R) (c:WD P ops ((some [],R) :: fr) os (st.put d v) K):WD P ops fr (⟨some d,op,ty,pos,aft,none⟩ :: os) st K:=⟨⟨_,_,_, .pu .no h,c.x⟩⟩
theorem D.puB (h:Pu P st d op v (some b) R) (c:WD P ops ((some [d],d :: R) :: fr) os ((st.putb d b).put d v) K):WD P ops fr (⟨some d,op,ty,pos,aft,none⟩ :: os) st K:=⟨⟨_,_,_, .puB .no rfl h,c.x⟩⟩
theorem D.gpu (hg:Wt ops st (some (j,want)) true) (h:Pu P st d op v none R) (c:WD P ops ((some [],R) :: fr) os (st.put d v) K):WD P ops fr (⟨some d,op,ty,pos,aft,some (j,want)⟩ :: os) st K:=⟨⟨_,_,_, .pu hg h,c.x⟩⟩
theorem D.maybe (h:Pu P st d op v none R) (c:WD P ops ((some [],R) :: fr) os (st.put d .bad) K):WD P ops fr (⟨some d,op,ty,pos,aft,some (j,want)⟩ :: os) st K:=⟨⟨_,_,_, .maybe h,c.x⟩⟩
theorem D.ef {g:(Nat→Blk)→Nat→Blk} {W:List Nat} (h:EfC P st d op v g W R) (c:WD P ops ((some W,R) :: fr) os (St.put ⟨st.t,g st.b⟩ d v) K):WD P ops fr (⟨some d,op,ty,pos,aft,none⟩ :: os) st K:=⟨⟨_,_,_, .efc .no h,c.x⟩⟩
theorem D.ef0 {g:(Nat→Blk)→Nat→Blk} {W:List Nat} (h:EfC P st 0 op v g W R) (c:WD P ops ((some W,R) :: fr) os ⟨st.t,g st.b⟩ K):WD P ops fr (⟨none,op,ty,pos,aft,none⟩ :: os) st K:=⟨⟨_,_,_, .efc .no h,c.x⟩⟩
theorem D.any {B:Nat→Blk} (h:Ef P st d op v B) (c:WD P ops ((none,[]) :: fr) os (St.put ⟨st.t,B⟩ d v) K):WD P ops fr (⟨some d,op,ty,pos,aft,none⟩ :: os) st K:=⟨⟨_,_,_, .any .no h,c.x⟩⟩
theorem U.load {t i x s u j o} [h:TI P t i] (hx:Ev st x (.op s u j o)) (hu:(st.b s).ver=u) (hm:(st.b s).mode.live=true) (hp:Part i.agg i.size o ((st.b s).row.get j) v):Pu P st d (.load t x) v none [s]:=.load hx hu (Mode.live_ne hm) hp
theorem U.fieldA {t i x s u j o f fs off ft sz} [h:TI P t i] (hd:i.d = .st fs) (hf:fs[f]?=some (off,ft,sz)) (hs:Nat.beq sz 0=false) (hx:Ev st x (.op s u j o)):Pu P st d (.fieldAddr t x f) (.op s u j (o + off)) none []:=.fieldA hd hf (fun e=>by subst e;cases hs) hx rfl
theorem U.fieldR {t i x w o f fs off ft sz} [h:TI P t i] (hd:i.d = .st fs) (hf:fs[f]?=some (off,ft,sz)) (hs:Nat.beq sz 0=false) (hx:Ev st x (.fp w o)):Pu P st d (.fieldAddr t x f) (.fp w (o + off)) none []:=.fieldR hd hf (fun e=>by subst e;cases hs) hx rfl
theorem U.indexO0 {t i e ie x y s u len full k' n} [h:TI P t i] [h':TI P e ie] (hd:i.d = .sl e) (hx:Ev st x (.os s u 0 len full)) (hu:(st.b s).ver=u) (hm:(st.b s).mode.live=true) (hy:Ev st y (.int k' n)) (h0:0≤n) (hn:n < (len:Int))
    (hs:((st.b s).row.get n.toNat).cells.length=ie.size) (hb:notBad ((st.b s).row.get n.toNat)=true):Pu P st d (.indexAddr t x y) (.op s u n.toNat 0) none [s] :=
  .indexO hd hx hu (Mode.live_ne hm) hy h0 hn (by rw [Nat.zero_add]) ⟨hs,notBad_ne hb⟩
theorem U.store {t i x y s u j o e1 row'} [h:TI P t i] (hx:Ev st x (.op s u j o)) (hu:(st.b s).ver=u) (hm:(st.b s).mode.wr=true) (hy:Ev st y v) (hi:v.inVar=true) (hl:v.cells.length=i.size) (hp:PutV ((st.b s).row.get j) o v e1)
    (hr:RowSet (st.b s).row j e1 row'):Ef P st d (.store t x y) .bad (upd st.b s ((st.b s).setRow row')):=.store hx hu (Mode.wr_or hm) hy hi hl hp hr
theorem E.pure {f:FuncId} {fn:Func} {code:Code} (hf:FnOk P f fn code) {args res:List AV} (hl:Nat.ble args.length fn.ntmps=true) (h:WC P code (entry args .no) (Post (Ends (Fin P fn res)))):CS P f args .no res :=
  cs_pure hf (Nat.le_of_ble_eq_true hl) (h.x.mono fun o s hs=>by cases o <;> first|exact hs.x|exact hs.elim)
theorem E.fin {fn:Func} {vs res:List AV} (ss:List Nat) (hr:Rs P st fn.results.toList vs) (hs:SnapL st ss vs res):Ends (Fin P fn res) st:=⟨⟨vs,ss,hr,hs⟩⟩
theorem E.fresh {f:FuncId} {fn:Func} {code:Code} (hf:FnOk P f fn code) {args:List AV} {row:Row} {e:TypeId} (hl:Nat.ble args.length fn.ntmps=true) (hrc:RowCl row) (h:WC P code (entry args .no) (Post (Ends (FinF P fn [] [] row e)))) :
    CS P f args ⟨none,some (row,e)⟩ [.os FRS 1 0 row.len true]:=cs_fresh (pre:=[]) (post:=[]) hf FlL.nil FlL.nil (Nat.le_of_ble_eq_true hl) hrc (h.x.mono fun o s hs=>by cases o <;> first|exact hs.x|exact hs.elim)
theorem E.freshT (pre post:List AV) {f:FuncId} {fn:Func} {code:Code} (hf:FnOk P f fn code) {args:List AV} {row:Row} {e:TypeId} (hl:Nat.ble args.length fn.ntmps=true) (hrc:RowCl row) (hpre:FlL pre) (hpost:FlL post) (h:WC P code (entry args .no) (Post (Ends (FinF P fn pre post row e)))) :
    CS P f args ⟨none,some (row,e)⟩ (pre ++ .os FRS 1 0 row.len true :: post):=cs_fresh hf hpre hpost (Nat.le_of_ble_eq_true hl) hrc (h.x.mono fun o s hs=>by cases o <;> first|exact hs.x|exact hs.elim)
theorem E.finFT {fn:Func} {s u:Nat} {pre post:List AV} {row:Row} {e:TypeId} (hr:Rs P st fn.results.toList (pre ++ .os s u 0 row.len true :: post)) (hs:st.b s=⟨u, .own,row,e⟩):Ends (FinF P fn pre post row e) st:=⟨⟨s,u,hr,hs⟩⟩
theorem E.finF {fn:Func} {s u:Nat} {row:Row} {e:TypeId} (hr:Rs P st fn.results.toList [.os s u 0 row.len true]) (hs:st.b s=⟨u, .own,row,e⟩):Ends (FinF P fn [] [] row e) st:=⟨⟨s,u,hr,hs⟩⟩
theorem E.win {f:FuncId} {fn:Func} {code:Code} (hf:FnOk P f fn code) {args res:List AV} {p:Nat} {k:IntKind} {l l':List Int} {e:TypeId} (hl:Nat.ble args.length fn.ntmps=true) (hll:l'.length=l.length) (hfl:Flat (AV.mk res))
    (h:WC P code (entry args ⟨some (p, .ints k l, .ints k l',e),none⟩) (Post (Ends (FinW P fn p (.ints k l') e res)))):CS P f args ⟨some (p, .ints k l, .ints k l',e),none⟩ res :=
  cs_win hf (Nat.le_of_ble_eq_true hl) hll hfl (h.x.mono fun o s hs=>by cases o <;> first|exact hs.x|exact hs.elim)
theorem E.finW {fn:Func} {vs:List AV} {p:Nat} {rout:Row} {e:TypeId} (hr:Rs P st fn.results.toList vs) (hs:st.b p=⟨1, .win,rout,e⟩):Ends (FinW P fn p rout e vs) st:=⟨⟨vs,hr,rfl,hs⟩⟩
end
end Go.AVL
end

section
namespace Go.AVL
open Go.RowKit
set_option linter.unusedVariables false
theorem gi {α:Type} {p:Prop} [Decidable p] {x:Option α} {r:α} (h:(if p then x else none)=some r):p∧x=some r:=by
  by_cases hp:p
  · rw [if_pos hp] at h;exact ⟨hp,h⟩
  · rw [if_neg hp] at h;cases h
theorem bd {α β:Type} {a:α} {f:α→Option β} {r:β} (h:(some a).bind f=some r):f a=some r:=h
theorem giff {α:Type} {p:Prop} [Decidable p] {x:Option α} {r:α}:((if p then x else none)=some r)=(p∧x=some r):=propext ⟨gi,fun h=>by rw [if_pos h.1];exact h.2⟩
theorem giffn {α:Type} {p:Prop} [Decidable p] {x:Option α} {r:α}:((if p then none else x)=some r)=(¬ p∧x=some r):=propext ⟨fun h=>by by_cases hp:p;(rw [if_pos hp] at h;cases h);(rw [if_neg hp] at h;exact ⟨hp,h⟩),fun h=>by rw [if_neg h.1];exact h.2⟩
theorem bdff {α β:Type} {a:α} {f:α→Option β} {r:β}:((some a).bind f=some r)=(f a=some r):=rfl
theorem bf {b:Bool} (h:b=false) : ¬ b=true:=by rw [h];exact Bool.false_ne_true
theorem nd {p:Prop} [Decidable p] (h : ¬ p) : ¬ decide p=true:=fun e=>h (of_decide_eq_true e)
theorem ne1 {α:Type} [BEq α] [LawfulBEq α] {a b:α} (h:a≠b):(a != b)=true:=by simpa using h
theorem ne0 {α:Type} [BEq α] [LawfulBEq α] {a b:α} (h:a=b) : ¬ (a != b)=true:=by simpa using h
theorem St.fixT {s:St} {x:Nat} {v:AV} (h:s.t x=v):s=s.put x v:=by
  cases s with
  | mk t b =>
    show (⟨t,b⟩:St)=⟨upd t x v,b⟩
    congr 1
    funext y
    by_cases e:y=x
    · subst e;rw [upd_same];exact h
    · rw [upd_ne _ _ e]
theorem St.fixB {s:St} {x:Nat} {v:Blk} (h:s.b x=v):s=s.putb x v:=by
  cases s with
  | mk t b =>
    show (⟨t,b⟩:St)=⟨t,upd b x v⟩
    congr 1
    funext y
    by_cases e:y=x
    · subst e;rw [upd_same];exact h
    · rw [upd_ne _ _ e]
section
variable {P : Program} {st : St} {Q : Out → St → Prop} {K : St → Prop}
theorem X.inv {c:Code} (I:Nat→St→Prop) (hz : ∀ s,¬ I 0 s) (hs : ∀ k s,I (k + 1) s→WC P c s (thenO (fun s'=>∃ j,j≤k∧I j s') Q)) {k:Nat} (h:I k st):WC P (.loop c) st Q:=by
  induction k using Nat.strongRecOn generalizing st with
  | _ k ih =>
    cases k with
    | zero=>exact absurd h (hz st)
    | succ k=>exact X.loop ((hs k st h).mono (thenO_mono (fun s h'=>let ⟨j,hj,h'⟩:=h';ih j (Nat.lt_succ_of_le hj) h') fun _ _ h=>h))
structure WL (P:Program) (c:Code) (l:Nat) (st:St) (Q:Out→St→Prop):Prop where
  x:XL P c l st Q
def goO (c:Code) (R:Nat→St→Prop) (Q:Out→St→Prop):Out→St→Prop
  | .goto l,s=>(findLabel c l).isSome=true∧R l s
  | o,s=>Q o s
theorem goO_jump {c:Code} {R R':Nat→St→Prop} (h : ∀ l s,R l s→R' l s) : ∀ o s,goO c R Q o s→jumpO c R' Q o s:=by
  intro o s hq
  cases o <;> first|exact hq|exact ⟨fun _=>h _ _ hq.2,fun e=>by rw [hq.1] at e;cases e⟩
theorem X.scope {x:Code} (I:Nat→Nat→St→Prop) (hz : ∀ l s,¬ I 0 l s) (hL : ∀ k l s,I (k + 1) l s→WL P x l s (goO x (fun l s=>∃ j,j≤k∧I j l s) Q)) (h:WC P x st (goO x (fun l s=>∃ j,I j l s) Q)):WC P (.scope x) st Q:=by
  refine ⟨?_⟩
  show Scope x (XC P x) (XL P x) Q st
  intro R R0 hR hR0
  have key : ∀ k l s,I k l s→R l s:=by
    intro k
    induction k using Nat.strongRecOn with
    | _ k ih =>
      intro l s hi
      cases k with
      | zero=>exact absurd hi (hz l s)
      | succ k=>exact hR l s ((XCL_mono x).2 (hL k l s hi).x (goO_jump fun l s ⟨j,hj,hi⟩=>ih j (Nat.lt_succ_of_le hj) l s hi))
  exact hR0 (h.x.mono (goO_jump fun l s ⟨j,hi⟩=>key j l s hi))
theorem L.left {x y:Code} {l:Nat} (hf:(findLabel x l).isSome=true) (h:WL P x l st (thenO (fun s=>WC P y s Q) Q)):WL P (.seq x y) l st Q:=by
  refine ⟨?_⟩
  unfold XL
  exact ⟨fun _=>(XCL_mono x).2 h.x (thenO_mono (fun _ h=>h.x) fun _ _ h=>h),fun e=>by rw [hf] at e;cases e⟩
theorem L.right {x y:Code} {l:Nat} (hf:(findLabel x l).isSome=false) (h:WL P y l st Q):WL P (.seq x y) l st Q:=by
  refine ⟨?_⟩
  unfold XL
  exact ⟨(fun e=>by rw [hf] at e;cases e),fun _=>h.x⟩
theorem L.label {l l':Nat} (h:Q .normal st):WL P (.label l') l st Q:=by
  refine ⟨?_⟩
  unfold XL
  exact h
theorem X.condNot {c:Operand} {x y:Code} {b:Bool} (hc:Ev st c (.bool (!b))) (h1:b=false→WC P x st Q) (h2:b=true→WC P y st Q):WC P (.cond c x y) st Q :=
  ⟨⟨!b,hc,fun e=>(h1 (by simpa using e)).x,fun e=>(h2 (by simpa using e)).x⟩⟩
variable {ops : Array Oper} {os : List Oper} {d ty : Nat} {op : Op} {pos : String} {aft : Array Edge} {v : AV} {R : List Nat} {b : Blk} {n1 k : Nat}
theorem O.split {e:Bool} (h1:e=true→WO P ops os (st.put d (.bool true)) K) (h2:e=false→WO P ops os (st.put d (.bool false)) K):WO P ops os (st.put d (.bool e)) K:=by
  cases e
  · exact h2 rfl
  · exact h1 rfl
theorem D.split {fr:List (Option (List Nat)×List Nat)} {e:Bool} (h1:e=true→WD P ops fr os (st.put d (.bool true)) K) (h2:e=false→WD P ops fr os (st.put d (.bool false)) K):WD P ops fr os (st.put d (.bool e)) K:=by
  cases e
  · exact h2 rfl
  · exact h1 rfl
theorem O.splitP {p:Prop} [Decidable p] (h1:p→WO P ops os (st.put d (.bool true)) K) (h2 : ¬ p→WO P ops os (st.put d (.bool false)) K):WO P ops os (st.put d (.bool (decide p))) K:=O.split (fun e=>h1 (of_decide_eq_true e)) (fun e=>h2 (of_decide_eq_false e))
theorem O.splitE {p q:Int} (h1:p=q→WO P ops os (st.put d (.bool true)) K) (h2:p≠q→WO P ops os (st.put d (.bool false)) K):WO P ops os (st.put d (.bool (p == q))) K:=O.split (fun e=>h1 (by simpa using e)) (fun e=>h2 (by simpa using e))
theorem O.splitN {p q:Int} (h1:p≠q→WO P ops os (st.put d (.bool true)) K) (h2:p=q→WO P ops os (st.put d (.bool false)) K):WO P ops os (st.put d (.bool (p != q))) K:=O.split (fun e=>h1 (by simpa using e)) (fun e=>h2 (by simpa using e))
theorem O.splitNot {p:Bool} (h1:p=false→WO P ops os (st.put d (.bool true)) K) (h2:p=true→WO P ops os (st.put d (.bool false)) K):WO P ops os (st.put d (.bool (!p))) K:=O.split (fun e=>h1 (by simpa using e)) (fun e=>h2 (by simpa using e))
theorem D.splitP {fr:List (Option (List Nat)×List Nat)} {p:Prop} [Decidable p] (h1:p→WD P ops fr os (st.put d (.bool true)) K) (h2 : ¬ p→WD P ops fr os (st.put d (.bool false)) K):WD P ops fr os (st.put d (.bool (decide p))) K:=D.split (fun e=>h1 (of_decide_eq_true e)) (fun e=>h2 (of_decide_eq_false e))
theorem D.splitE {fr:List (Option (List Nat)×List Nat)} {p q:Int} (h1:p=q→WD P ops fr os (st.put d (.bool true)) K) (h2:p≠q→WD P ops fr os (st.put d (.bool false)) K):WD P ops fr os (st.put d (.bool (p == q))) K:=D.split (fun e=>h1 (by simpa using e)) (fun e=>h2 (by simpa using e))
theorem D.splitN {fr:List (Option (List Nat)×List Nat)} {p q:Int} (h1:p≠q→WD P ops fr os (st.put d (.bool true)) K) (h2:p=q→WD P ops fr os (st.put d (.bool false)) K):WD P ops fr os (st.put d (.bool (p != q))) K:=D.split (fun e=>h1 (by simpa using e)) (fun e=>h2 (by simpa using e))
theorem D.splitNot {fr:List (Option (List Nat)×List Nat)} {p:Bool} (h1:p=false→WD P ops fr os (st.put d (.bool true)) K) (h2:p=true→WD P ops fr os (st.put d (.bool false)) K):WD P ops fr os (st.put d (.bool (!p))) K:=D.split (fun e=>h1 (by simpa using e)) (fun e=>h2 (by simpa using e))
theorem O.splitS {a b:ByteArray} {l:List UInt8} (hl:b.toList=l) (h1:a.toList=l→WO P ops os (st.put d (.bool true)) K) (h2 : ¬ a.toList=l→WO P ops os (st.put d (.bool false)) K):WO P ops os (st.put d (.bool (a.toList == b.toList))) K:=O.split (fun e=>h1 (by simpa [hl] using e)) (fun e=>h2 (by simpa [hl] using e))
theorem D.splitS {fr:List (Option (List Nat)×List Nat)} {a b:ByteArray} {l:List UInt8} (hl:b.toList=l) (h1:a.toList=l→WD P ops fr os (st.put d (.bool true)) K) (h2 : ¬ a.toList=l→WD P ops fr os (st.put d (.bool false)) K):WD P ops fr os (st.put d (.bool (a.toList == b.toList))) K:=D.split (fun e=>h1 (by simpa [hl] using e)) (fun e=>h2 (by simpa [hl] using e))
theorem wrap_eq (n:Int):IntKind.i64.wrap n=wrap64 n:=by rw [IntKind.wrap_i64];rfl
theorem O.puE {v':AV} {b':Blk} (h:Pu P st d op v (some b) R) (hv:v=v') (hb:b=b') (k:WO P ops os ((st.putb d b').put d v') K):WO P ops (⟨some d,op,ty,pos,aft,none⟩ :: os) st K:=by subst hv;subst hb;exact O.puB h k
theorem G.puE {v':AV} {b':Blk} {j:Nat} {want:Bool} (hg:Wt ops st (some (j,want)) true) (h:Pu P st d op v (some b) R) (hv:v=v') (hb:b=b') (k:WO P ops os ((st.putb d b').put d v') K):WO P ops (⟨some d,op,ty,pos,aft,some (j,want)⟩ :: os) st K:=by subst hv;subst hb;exact G.puB hg h k
theorem D.puE {fr:List (Option (List Nat)×List Nat)} {v':AV} {b':Blk} (h:Pu P st d op v (some b) R) (hv:v=v') (hb:b=b') (k:WD P ops ((some [d],d :: R) :: fr) os ((st.putb d b').put d v') K):WD P ops fr (⟨some d,op,ty,pos,aft,none⟩ :: os) st K:=by subst hv;subst hb;exact D.puB h k
theorem U.storeE {t i x y s u j o e1 row row' m e} [h:TI P t i] (hx:Ev st x (.op s u j o)) (hB:st.b s=⟨u,m,row,e⟩) (hm:m.wr=true) (hy:Ev st y v) (hi:v.inVar=true) (hl:v.cells.length=i.size) (hp:PutV (row.get j) o v e1)
    (hr:RowSet row j e1 row'):Ef P st d (.store t x y) .bad (upd st.b s ⟨u,m,row',e⟩):=by
  have h1:=U.store (P:=P) (d:=d) (e1:=e1) (row':=row') (t:=t) hx (by rw [hB]) (by rw [hB];exact hm) hy hi hl (by rw [hB];exact hp) (by rw [hB];exact hr)
  rw [hB] at h1
  exact h1
theorem C.storeE {t i x y s u j o e1 row row' m e} [h:TI P t i] (hx:Ev st x (.op s u j o)) (hB:st.b s=⟨u,m,row,e⟩) (hm:m.wr=true) (hy:Ev st y v) (hi:v.inVar=true) (hl:v.cells.length=i.size) (hp:PutV (row.get j) o v e1)
    (hr:RowSet row j e1 row'):EfC P st d (.store t x y) .bad (fun B=>upd B s ⟨u,m,row',e⟩) [s] [s]:=by
  have h1:=C.store (P:=P) (d:=d) (e1:=e1) (row':=row') (t:=t) hx (by rw [hB]) (by rw [hB];exact hm) hy hi hl (by rw [hB];exact hp) (by rw [hB];exact hr)
  rw [hB] at h1
  exact h1
theorem U.bneq {t i a b} [h:TI P t i] (hd:i.d = .bool):BinR P .neq t (.bool a) (.bool b) (.bool (a != b)):=.bneq hd
theorem U.sub64 {t a b}:BinR P .sub t (.int .i64 a) (.int .i64 b) (.int .i64 (wrap64 (a - b))):=by rw [← wrap_eq];exact .sub
theorem U.quo64 {t a b} (h:b≠0):BinR P .quo t (.int .i64 a) (.int .i64 b) (.int .i64 (wrap64 (a.tdiv b))):=by rw [← wrap_eq];exact .quo h
theorem U.shrV {t k k' a b} (h:0≤b):BinR P .shr t (.int k a) (.int k' b) (.int k (a / 2 ^ min b.toNat k.bits)):=by
  have e:a / 2 ^ min b.toNat k.bits=a.fdiv (2 ^ min b.toNat k.bits):=(Int.fdiv_eq_ediv_of_nonneg a (Int.le_of_lt (Int.pow_pos (by decide)))).symm
  rw [e];exact .shr h
theorem U.shrC {t k k' a b} (c:Int) (h:0≤b) (hc:(2:Int) ^ min b.toNat k.bits=c):BinR P .shr t (.int k a) (.int k' b) (.int k (a / c)):=by subst hc;exact U.shrV h
theorem U.neg {k a}:UnR .neg (.int k a) (.int k (k.wrap (-a))):=by
  rw [← Int.zero_sub];exact .neg
theorem U.conv64 {s t i j x k n} [h:TI P s i] [h':TI P t j] (hd:j.d = .int .i64) (hx:Ev st x (.int k n)):Pu P st d (.convert s t x) (.int .i64 (wrap64 n)) none []:=by rw [← wrap_eq];exact .convI hd hx
theorem U.conv8 {s t i j x k n} [h:TI P s i] [h':TI P t j] (hd:j.d = .int .u8) (hx:Ev st x (.int k n)):Pu P st d (.convert s t x) (.int .u8 (n % 256)) none []:=by
  have:IntKind.u8.wrap n=n % 256:=by simp [IntKind.wrap,IntKind.signed,IntKind.bits]
  rw [← this];exact .convI hd hx
theorem U.convI {s t i j x k k' n} [h:TI P s i] [h':TI P t j] (hd:j.d = .int k') (hx:Ev st x (.int k n)):Pu P st d (.convert s t x) (.int k' (k'.wrap n)) none []:=.convI hd hx
theorem U.sliceH {t i e ie x k l hi mx b} [h:TI P t i] [h':TI P e ie] (hd:i.d = .sl e) (h1:ie.size=1) (hx:Ev st x (.fi k l)) (hlo:Bd st none 0 0) (hhi:Bd st hi l.length b) (hm:Mx st b l.length hi mx) (hab:0≤b) (hb:b≤l.length) :
    Pu P st d (.slice t x none hi mx) (.fi k (l.take b)) none []:=.sliceI hd h1 hx hlo hhi hm hab hb rfl
inductive PartsI (st:St) (k:IntKind):Nat→List (Nat×Operand)→List Int→Prop
  | nil {i}:PartsI st k i [] []
  | cons {i x n rest l}:Ev st x (.int k n)→PartsI st k (i + 1) rest l→PartsI st k i ((i,x) :: rest) (n :: l)
theorem PartsI.r {st:St} {k:IntKind} {i:Nat} {ps:List (Nat×Operand)} {l:List Int} (h:PartsI st k i ps l):PartsR st i ps (l.map (AV.int k)):=by
  induction h with
  | nil=>exact .nil
  | cons hx _ ih=>exact .cons hx rfl ih
theorem int_size {e:TypeId} {ie:TInfo} (he:TI P e ie) {k:IntKind} (hk:ie.d = .int k):ie.size=1∧ie.zeroV = .int k 0:=by
  obtain ⟨ein,eds,ez,E⟩:=he.facts
  have e1:=td_int (E.dd.symm.trans hk)
  have hagg:ie.agg=false:=by rw [E.agg,e1];rfl
  have h:=he.eq
  unfold tinfo at h
  rw [E.info,E.und] at h
  simp only [E.zero] at h
  split at h
  · have e':=Option.some.inj h
    subst e'
    have hzc:zc P 8 e = [.int k 0]:=by unfold zc;rw [E.und,e1]
    refine ⟨?_,by simp [TInfo.zeroV,hzc,e1,aggOf]⟩
    have:=E.zlen
    simp only at this ⊢
    rw [hzc] at this
    exact this.symm
  · cases h
theorem U.litI {t i e ie len parts k l} [h:TI P t i] [h':TI P e ie] (hd:i.d = .sl e) (hk:ie.d = .int k) (hp:PartsI st k 0 parts.toList l) (hl:len=l.length) (hs:Nat.ble len 16777216=true) :
    Pu P st d (.buildSlice t len parts) (.os d ((st.b d).ver + 1) 0 l.length true) (some ⟨(st.b d).ver + 1, .own, .ints k l,e⟩) []:=by
  have hz:=(int_size h' hk).1
  subst hl
  exact .litO hd hp.r (by simp) (by rw [hz,Nat.mul_one];exact Nat.le_of_ble_eq_true hs) (by rw [hz];exact Nat.zero_lt_one) (fun j hj=>by
    rw [hz]
    have hj':j < l.length:=by simpa using hj
    simp [List.getD,hj',AV.cells]) .ints
theorem U.makeI {t i e ie x y k k' kk p q} [h:TI P t i] [h':TI P e ie] (hd:i.d = .sl e) (hk:ie.d = .int kk) (hx:Ev st x (.int k p)) (hy:Ev st y (.int k' q)) (h0:0≤p) (hpq:p≤q) (h8:Nat.ble ie.bytes 8=true) (hb:q.toNat≤35184372088832) :
    Pu P st d (.makeSlice t x y) (.os d ((st.b d).ver + 1) 0 (List.replicate p.toNat (0:Int)).length true) (some ⟨(st.b d).ver + 1, .own, .ints kk (List.replicate p.toNat 0),e⟩) []:=by
  rw [List.length_replicate]
  refine .makeI hd hk hx hy h0 hpq ?_ (by omega)
  have:=Nat.mul_le_mul (Nat.le_of_ble_eq_true h8) hb
  omega
theorem U.append {t i e ie x y s u len ss v k l l2} [h:TI P t i] [h':TI P e ie] (hd:i.d = .sl e) (hk:ie.d = .int k) (hx:Ev st x (.os s u 0 len true)) (hu:(st.b s).ver=u) (hm:(st.b s).mode = .own) (he:(st.b s).e=e) (hr:(st.b s).row = .ints k l) (hl:len=l.length)
    (hy:Ev st y v) (hsn:Snap st ss v (.fi k l2)) (h8:Nat.ble ie.bytes 8=true) (hb:l.length + l2.length≤17592186044416) :
    Ef P st d (.call ⟨.builtin .append,#[x,y],#[t,t]⟩) (.os d ((st.b d).ver + 1) 0 (l ++ l2).length true) (upd (upd st.b s (st.b s).kill) d ⟨(st.b d).ver + 1, .own, .ints k (l ++ l2),e⟩):=by
  have hz:=(int_size h' hk).1
  have h1:(Row.ints k (l ++ l2)).len=l.length + l2.length:=by simp [Row.len]
  refine .append (row:=.ints k (l ++ l2)) hd (by rw [hz];exact Nat.zero_lt_one) hx hu hm he (by rw [hr,hl];rfl) hy hsn .fi (fun j hj=>⟨by rw [hz];rfl,rfl⟩) (by rw [hr];exact .ints) (by rw [h1];simp only [maxLen];omega) ?_
  rw [h1]
  have:=Nat.mul_le_mul hb (Nat.le_of_ble_eq_true h8)
  omega
theorem U.appendE {t i e ie x y s u u' len ss v k l l2} [h:TI P t i] [h':TI P e ie] (hd:i.d = .sl e) (hk:ie.d = .int k) (hx:Ev st x (.os s u 0 len true)) (hB:st.b s=⟨u, .own, .ints k l,e⟩) (hl:len=l.length)
    (hy:Ev st y v) (hsn:Snap st ss v (.fi k l2)) (h8:Nat.ble ie.bytes 8=true) (hb:l.length + l2.length≤17592186044416) (hu:(st.b d).ver + 1=u') :
    Ef P st d (.call ⟨.builtin .append,#[x,y],#[t,t]⟩) (.os d u' 0 (l ++ l2).length true) (upd (upd st.b s ⟨u, .dead, .ints k l,e⟩) d ⟨u', .own, .ints k (l ++ l2),e⟩):=by
  have h1:=U.append (P:=P) (d:=d) (t:=t) (l:=l) hd hk hx (by rw [hB]) (by rw [hB]) (by rw [hB]) (by rw [hB]) hl hy hsn h8 hb
  rw [hB,hu] at h1
  exact h1
theorem ne_of_beq {a b:Nat} (h:Nat.beq a b=false):a≠b:=fun e=>by subst e;rw [Nat.beq_refl] at h;cases h
theorem U.nilOE {row:Row} {e u} (hr:row.len=0) (hu:(st.b d).ver + 1=u):Ef P st d (.assign (.const (.slice none 0 0))) (.os d u 0 0 true) (upd st.b d ⟨u, .own,row,e⟩):=by subst hu;exact .nilO hr
theorem U.takeE {x s u u' len row e} (hx:Ev st x (.os s u 0 len true)) (hB:st.b s=⟨u, .own,row,e⟩) (hn:s≠d) (hu:(st.b d).ver + 1=u'):Ef P st d (.assign x) (.os d u' 0 len true) (upd (upd st.b s ⟨u, .dead,row,e⟩) d ⟨u', .own,row,e⟩):=by
  have h1:Ef P st d (.assign x) _ _:=.take (row:=row) (e:=e) hx hn (by rw [hB]) (by rw [hB]) (by rw [hB]) (by rw [hB])
  rw [hB,hu] at h1
  exact h1
theorem U.cutE {x s u u' off len full k l e row} (hx:Ev st x (.os s u off len full)) (hB:st.b s=⟨u, .own, .ints k l,e⟩) (hr:(l.drop off).take len=row) (hu:(st.b d).ver + 1=u'):Ef P st d (.assign x) (.os d u' 0 len false) (upd (upd st.b s ⟨u, .dead, .ints k l,e⟩) d ⟨u', .own, .ints k row,e⟩):=by
  have h1:Ef P st d (.assign x) _ _:=.cut (row:=.ints k row) (e:=e) hx (by rw [hB]) (by rw [hB]) (by rw [hB]) (by rw [hB,← hr];exact .ints)
  rw [hB,hu] at h1
  exact h1
theorem U.call {args ats f vs as res ss} (hv:EvL st args.toList vs) (hs:SnapL st ss vs as) (hc:CS P f as .no res) (hf:ss = []∨Flat (AV.mk res)) (hcl:Cl (AV.mk res)):Pu P st d (.call ⟨.value (.func f),args,ats⟩) (AV.mk res) none ss :=
  .call .fn hv (by rw [List.append_nil];exact hs) hc hf hcl
theorem U.callF {args ats f vs as k l e ss} (hv:EvL st args.toList vs) (hs:SnapL st ss vs as) (hc:CS P f as ⟨none,some (.ints k l,e)⟩ [.os FRS 1 0 (Row.ints k l).len true]) :
    Pu P st d (.call ⟨.value (.func f),args,ats⟩) (.os d ((st.b d).ver + 1) 0 l.length true) (some ⟨(st.b d).ver + 1, .own, .ints k l,e⟩) ss :=
  .callF [] [] .fn hv (by rw [List.append_nil];exact hs) hc trivial (.inr trivial) FlL.nil FlL.nil
theorem U.callT (pre post:List AV) {args ats f vs as row e ss} (hv:EvL st args.toList vs) (hs:SnapL st ss vs as) (hc:CS P f as ⟨none,some (row,e)⟩ (pre ++ .os FRS 1 0 row.len true :: post)) (hrc:RowCl row) (hrf:RowFlat row) (hp:FlL pre) (hq:FlL post) :
    Pu P st d (.call ⟨.value (.func f),args,ats⟩) (AV.mk (pre ++ .os d ((st.b d).ver + 1) 0 row.len true :: post)) (some ⟨(st.b d).ver + 1, .own,row,e⟩) ss :=
  .callF pre post .fn hv (by rw [List.append_nil];exact hs) hc hrc (.inr hrf) hp hq
theorem U.callZ {args ats f vs as res ss} (hv:EvL st args.toList vs) (hs:SnapL st ss vs as) (hc:CS P f as .no res) (hcl:Cl (AV.mk res)) (hw : ∀ s,s ∈ ss→(st.b s).mode≠.win) :
    Ef P st d (.call ⟨.value (.func f),args,ats⟩) (AV.mk res) (frz ss st.b):=.callZ .fn hv (by rw [List.append_nil];exact hs) hc hcl hw
end
theorem Cl.aggL {cs:List AV} (h:ClL cs):Cl (.agg cs):=.agg h
theorem Cl.tupL {cs:List AV} (h:ClL cs):Cl (.tup cs):=.tup h
theorem Flat.aggL {cs:List AV} (h:FlL cs):Flat (.agg cs):=.agg h
theorem Flat.tupL {cs:List AV} (h:FlL cs):Flat (.tup cs):=.tup h
theorem Snap.aggL {st:St} {ss:List Nat} {cs cs':List AV} (h:SnapL st ss cs cs'):Snap st ss (.agg cs) (.agg cs'):=.agg h.1 h.2
theorem nowin {st:St} : ∀ {ss:List Nat},(ss.all fun s=>match (st.b s).mode with | .win=>false|_=>true)=true→∀ s,s ∈ ss→(st.b s).mode≠.win:=by
  intro ss h s hs e
  rw [List.all_eq_true] at h
  have:=h s hs
  rw [e] at this
  cases this
end Go.AVL
end
