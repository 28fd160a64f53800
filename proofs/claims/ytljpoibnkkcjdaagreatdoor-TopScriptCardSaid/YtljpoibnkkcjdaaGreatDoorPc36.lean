/- The law TopScript returns true: a script that tells a tuning and readings tells the cluster's reports, place by place. Conditions: none beside what the card ties (the listed tables of Go's library hold what the program's text lays). -/
import Derived.Test.YtljpoibnkkcjdaaGreatDoorPc35
set_option linter.unusedVariables false
set_option linter.unusedSimpArgs false
namespace Go.Proofs.YtljpoibnkkcjdaaGreatDoor
namespace Dr
theorem proved:Rows.TopScriptCardSaid:=card_of walk
end Dr
end Go.Proofs.YtljpoibnkkcjdaaGreatDoor
