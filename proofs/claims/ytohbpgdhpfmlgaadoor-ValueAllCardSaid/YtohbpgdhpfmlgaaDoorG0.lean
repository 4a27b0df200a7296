/- strings.Compare of two texts answers the order of their bytes, and leaves the world as it was. -/
import Derived.Test.YtohbpgdhpfmlgaaDoorShelf
import Derived.Test.YtohbpgdhpfmlgaaDoorWWords
namespace Go.Proofs.YtohbpgdhpfmlgaaDoor.PA
open Go.RowKit Go.Proofs.YtohbpgdhpfmlgaaDoorW.PrintWords

def strings_Compare.f (a0 a1 : ByteArray) : Option Int := some (Lib.compareBytes a0.data.toList a1.data.toList)
theorem strings_Compare.calls (a0 a1 : ByteArray) (r : Int) (w : World) (h : strings_Compare.f a0 a1 = some r) :
    Calls Tryd.prog 24 #[.string a0, .string a1] w fun e w' => e = .returned (.int .i64 r) ∧ Drawn0 w w' := by
  obtain rfl := Option.some.inj h
  refine (Tryd.strings_Compare a0 a1 w).mono ?_
  rintro e w' ⟨rfl, rfl⟩
  exact ⟨rfl, Drawn0.refl _⟩
end Go.Proofs.YtohbpgdhpfmlgaaDoor.PA
