import Derived.Calls
namespace Go.Sx
theorem og {p:Prop} (h:p:=by first | omega | (simp at hg; omega) | grind):p:=h
theorem DC {p:Prop} (h:p:=by decide):p:=h
end Go.Sx
