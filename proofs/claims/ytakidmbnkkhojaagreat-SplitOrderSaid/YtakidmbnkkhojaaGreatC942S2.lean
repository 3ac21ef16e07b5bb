import Derived.Test.YtakidmbnkkhojaaGreatC942JM5
import Derived.Test.YtakidmbnkkhojaaGreatC942D
import Derived.Test.YtakidmbnkkhojaaGreatC942S0
import Derived.Test.YtakidmbnkkhojaaGreatC942A1
namespace Go.Proofs.YtakidmbnkkhojaaGreatM
open Go.RowKit Go.Proofs.YtakidmbnkkhojaaGreatW.PrintWords Go.Proofs.YtakidmbnkkhojaaGreatW.PrintLast Go.Proofs.YtakidmbnkkhojaaGreatW.PrintMore Go.Proofs.YtakidmbnkkhojaaGreatX Go.Proofs.YtakidmbnkkhojaaGreat.F Go.Proofs.YtakidmbnkkhojaaGreat
set_option linter.unusedVariables false
set_option linter.unusedSimpArgs false
def RightD (x:D3):Prop:=Right x.1 x.2.1 x.2.2
def numD (x:D3):Int:=num x.1 x.2.1 x.2.2
theorem rd_P (L:List (D3×D3)) (i:Nat) (h:i < L.length):rd_T55 (L.map ofP) (i:Int)=ofP L[i]:=by
  unfold rd_T55;rw [Int.toNat_natCast,List.getD_eq_getElem?_getD,List.getElem?_map,List.getElem?_eq_getElem h];rfl
theorem cmp_num {a b:D3} (ha:RightD a) (hb:RightD b):cmpD a b=sgI (numD a) (numD b):=by
  have h:cmpD a b=or3 (sgI a.1 b.1) (sgI a.2.1 b.2.1) (sgI a.2.2 b.2.2):=rfl
  rw [h];exact or3_num ha hb
theorem le_num {a b:D3} (ha:RightD a) (hb:RightD b):leD a b ↔ numD a≤numD b:=by
  unfold leD;rw [cmp_num ha hb];unfold sgI;(repeat' split) <;> omega
end Go.Proofs.YtakidmbnkkhojaaGreatM
