import Derived.Test.YtgbjfjdmhieejaaProg
import Derived.Test.YtgbjfjdmhieejaaWWords
/- A field of a record, as a walk asks for it. -/
namespace Go.Proofs.Ytgbjfjdmhieejaa.H
end Go.Proofs.Ytgbjfjdmhieejaa.H
