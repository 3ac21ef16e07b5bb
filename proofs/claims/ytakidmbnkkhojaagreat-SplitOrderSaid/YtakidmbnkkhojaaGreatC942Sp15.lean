import Derived.Test.YtakidmbnkkhojaaGreatC942JG2
import Derived.Test.YtakidmbnkkhojaaGreatC942Sp7
namespace Go.Proofs.YtakidmbnkkhojaaGreat
open Go.AVL Go.RowKit Go.Proofs.YtakidmbnkkhojaaGreat.F Go.Proofs.YtakidmbnkkhojaaGreatX Go.Proofs.YtakidmbnkkhojaaGreatW.PrintWords Go.Proofs.YtakidmbnkkhojaaGreatW.PrintLast Go.Proofs.YtakidmbnkkhojaaGreatW.PrintMore
set_option linter.unusedVariables false
set_option maxRecDepth 100000
theorem eqP (d:Nat) (w:World) (x0 y0 x1 y1 x2 y2 x3 y3 x4 y4 x5 y5:Int) :
    (Op.equalIn (d + 4) 55 (.agg #[.int .i64 x0, .int .i64 x1, .int .i64 x2, .int .i64 x3, .int .i64 x4, .int .i64 x5]) (.agg #[.int .i64 y0, .int .i64 y1, .int .i64 y2, .int .i64 y3, .int .i64 y4, .int .i64 y5])).run Tryz.prog w = .ok ((x0 == y0 && (x1 == y1 && (x2 == y2))) && (x3 == y3 && (x4 == y4 && (x5 == y5)))) w:=by
  refine eqA_of Tryz.underlying55 (by kernel_rfl) ?_
  refine eqf_cons (by rfl) (by go_simp) (by go_simp) (eqD _ _ _ _ _ _ _ _) ?_
  exact eqf_last (by rfl) (by go_simp) (by go_simp) (eqD _ _ _ _ _ _ _ _)
theorem U.eql55 {st:St} {d:Nat} {x y:Operand} {t:TypeId} {u0 u1 u2 v0 v1 v2 u3 u4 u5 v3 v4 v5:Int} (hx:Ev st x (.agg [.int .i64 u0, .int .i64 u1, .int .i64 u2, .int .i64 u3, .int .i64 u4, .int .i64 u5])) (hy:Ev st y (.agg [.int .i64 v0, .int .i64 v1, .int .i64 v2, .int .i64 v3, .int .i64 v4, .int .i64 v5])) :
    Pu Tryz.prog st d (.binOp .eql 55 x y t) (.bool ((u0 == v0 && (u1 == v1 && (u2 == v2))) && (u3 == v3 && (u4 == v4 && (u5 == v5))))) none []:=by
  refine .ext fun st' ha hb c I m a w o hop hs=>⟨_,?_, .bool _⟩
  have e1:=arr_inv (l:=[u0,u1,u2,u3,u4,u5]) ((ha x (by simp [Op.operands]) _ hx).vr hs)
  have e2:=arr_inv (l:=[v0,v1,v2,v3,v4,v5]) ((ha y (by simp [Op.operands]) _ hy).vr hs)
  have h1:(binOp .eql 55 (.agg #[.int .i64 u0, .int .i64 u1, .int .i64 u2, .int .i64 u3, .int .i64 u4, .int .i64 u5]) (.agg #[.int .i64 v0, .int .i64 v1, .int .i64 v2, .int .i64 v3, .int .i64 v4, .int .i64 v5])).run Tryz.prog w = .ok (.bool ((u0 == v0 && (u1 == v1 && (u2 == v2))) && (u3 == v3 && (u4 == v4 && (u5 == v5))))) w:=by simp [binOp,Op.equal,Op.maxDepth,eqP 9996]
  have hgd:=fun (a b:Array Value)=>run_eqGuard_agg (P:=Tryz.prog) w .eql 55 x y a b Tryz.eqGuardType55
  simp [execOp,hop,e1,e2,h1,hgd]
theorem FlL.map {α:Type} {en:α→AV} {l:List α} (h : ∀ x,Flat (en x)):FlL (l.map en):=by
  intro i hi
  rw [List.length_map] at hi
  rw [List.getD_eq_getElem?_getD,List.getElem?_map,List.getElem?_eq_getElem hi]
  exact h _
theorem U.callTV {α:Type} {en:α→AV} {P:Program} {st:St} {d:Nat} (pre post:List AV) {args ats f vs vs2 e ss} {l:List α} (hv:EvL st args.toList vs) (hs:SnapL st ss vs vs2) (hc:CS P f vs2 ⟨none,some (.vals (l.map en),e)⟩ (pre ++ .os FRS 1 0 (Row.vals (l.map en)).len true :: post)) (hrc : ∀ x,Cl (en x)) (hrf : ∀ x,Flat (en x)) (hp:FlL pre) (hq:FlL post) :
    Pu P st d (.call ⟨.value (.func f),args,ats⟩) (AV.mk (pre ++ .os d ((st.b d).ver + 1) 0 l.length true :: post)) (some ⟨(st.b d).ver + 1, .own, .vals (l.map en),e⟩) ss:=by
  have h:=U.callT (d:=d) (ats:=ats) pre post hv hs hc (ClL.map hrc) (FlL.map hrf) hp hq
  rwa [show (Row.vals (l.map en)).len=l.length by simp [Row.len]] at h
theorem E.finFV {α:Type} {en:α→AV} {P:Program} {st:St} {fn:Func} {s u n:Nat} {pre post:List AV} {l:List α} {e:TypeId} (hr:Rs P st fn.results.toList (pre ++ .os s u 0 n true :: post)) (hn:n=l.length) (hs:st.b s=⟨u, .own, .vals (l.map en),e⟩):Go.AVL.Ends (FinF P fn pre post (.vals (l.map en)) e) st:=by
  subst hn
  exact E.finFT (by rw [show (Row.vals (l.map en)).len=l.length by simp [Row.len]];exact hr) hs
theorem iteT {α:Type} {b:Bool} {A B:Option α} {r:α} (c:b=true) (h:(if b=true then A else B)=some r):A=some r:=by rwa [if_pos c] at h
theorem iteF {α:Type} {b:Bool} {A B:Option α} {r:α} (c:b=false) (h:(if b=true then A else B)=some r):B=some r:=by rwa [if_neg (by rw [c];decide)] at h
end Go.Proofs.YtakidmbnkkhojaaGreat
