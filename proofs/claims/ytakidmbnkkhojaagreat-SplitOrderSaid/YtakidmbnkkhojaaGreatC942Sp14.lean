import Derived.Test.YtakidmbnkkhojaaGreatC942Sp9
namespace Go.Proofs.YtakidmbnkkhojaaGreat
def leapD (y:Int):Bool:=decide ((y % 4=0∧y % 100≠0)∨y % 400=0)
def dmD (y m:Int):Int:=if m=2 then (if leapD y=true then 29 else 28) else if m=4∨m=6∨m=9∨m=11 then 30 else 31
def daysD (y m:Int):Int:=if 1≤y∧y≤9999∧1≤m∧m≤12 then dmD y m else 0
def wrD (x:D3):Bool:=!(decide (1≤x.2.2∧x.2.2≤daysD x.1 x.2.1))
end Go.Proofs.YtakidmbnkkhojaaGreat
