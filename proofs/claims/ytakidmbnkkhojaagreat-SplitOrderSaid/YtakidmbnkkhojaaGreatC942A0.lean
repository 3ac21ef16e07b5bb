import Derived.Test.YtakidmbnkkhojaaGreatC942JM5
import Derived.Test.YtakidmbnkkhojaaGreatC942D
namespace Go.Proofs.YtakidmbnkkhojaaGreatM
open Go.RowKit Go.Proofs.YtakidmbnkkhojaaGreatW.PrintWords Go.Proofs.YtakidmbnkkhojaaGreatW.PrintLast Go.Proofs.YtakidmbnkkhojaaGreatW.PrintMore Go.Proofs.YtakidmbnkkhojaaGreatX Go.Proofs.YtakidmbnkkhojaaGreat.F
set_option linter.unusedVariables false
set_option linter.unusedSimpArgs false
def ydN (y:Int):Nat:=if leap y=true then 366 else 365
end Go.Proofs.YtakidmbnkkhojaaGreatM
