/-
  WalkGreat: for every kind, number, fuel and room the law returns true, and what it reads stays as it was; the card ties the listed variable to the program's text. No condition beside the card's own.
-/
import Derived.Test.YtdincjlkfbeedaaGreatDoorZ
import Derived.Test.YtdincjlkfbeedaaGreatDoorEnd
import Derived.Test.YtdincjlkfbeedaaGreatDoorTz
namespace Go.Proofs.YtdincjlkfbeedaaGreatDoor
open Go
theorem law_all : LawAny := fun kd n F R h0 h1 => Go.Wg.law_any kd n F R h0 h1
theorem walkGreat_row : Rows.WalkGreatSaid := row_of law_all
theorem walkGreat_holds : Rows.WalkGreatCardSaid := card_of walkGreat_row
end Go.Proofs.YtdincjlkfbeedaaGreatDoor
