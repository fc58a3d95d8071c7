/- Own layer. -/
import Derived.Test.YtckgdfakjjdodaaGreatAmZ
namespace Go.Am
open Go.RowKit
end Go.Am
