import Derived.Test.YtakidmbnkkhojaaGreatC942A0
namespace Go.Proofs.YtakidmbnkkhojaaGreatM
open Go.RowKit Go.Proofs.YtakidmbnkkhojaaGreatW.PrintWords Go.Proofs.YtakidmbnkkhojaaGreatW.PrintLast Go.Proofs.YtakidmbnkkhojaaGreatW.PrintMore Go.Proofs.YtakidmbnkkhojaaGreatX Go.Proofs.YtakidmbnkkhojaaGreat.F
set_option linter.unusedVariables false
set_option linter.unusedSimpArgs false
def acc (y m d:Int):Rat:=(y:Rat) + mkRat (num y m d - num y 1 1) (ydN y)
end Go.Proofs.YtakidmbnkkhojaaGreatM
