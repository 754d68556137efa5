/-
  The tie of the row; the card holds if the row does.
-/
import Derived.Test.YtdincjlkfbeedaaGreatDoorTb
import Derived.Test.YtdincjlkfbeedaaGreatDoorTc
import Derived.Test.YtdincjlkfbeedaaGreatDoorTd
import Derived.Test.YtdincjlkfbeedaaGreatDoorTf
import Derived.Test.YtdincjlkfbeedaaGreatDoorCards
set_option linter.all false
namespace Go.Proofs.YtdincjlkfbeedaaGreatDoor
open Go
theorem tie : Tryz.prog.laidByTextLater laidT [.handle] true :=
  Program.laidByTextLater_by_run_h 400 8 tA tB tC tD tE tF tG tI tJ tH
theorem row_tie : Rows.walkGreatRow.laidByTextAt .later Tryz.pinned [.handle] true :=
  OpenClaim.laidByTextAt_later rfl rfl tie noOwnUnsafe
theorem cW : Rows.walkGreatRow.wfByText (OpenSpec.ofChange Rows.walkGreatSpec) = true := by kernel_rfl
theorem cM : Tryz.prog.mainIs = some (true, "638be5721d5289130965c0003f9bf481f5e648aec062b3f0546b9e179b6de304".toList) := by kernel_rfl
theorem cN : Tryz.prog.funcNamed "abacus/abacuslaw19.WalkGreat" = some 3 := by kernel_rfl
theorem cL : true = Tryz.prog.looks [] := by kernel_rfl
theorem c2 : Tryz.prog.wantsStandIn 2 = false := by kernel_rfl
theorem c3 : Tryz.prog.wantsStandIn 3 = false := by kernel_rfl
theorem gt {a b c : Bool} (ha : a = false) (hb : b = false) : (a || (c && b)) = false := by rw [ha, hb, Bool.and_false]; rfl
set_option maxRecDepth 100000 in
theorem g3 : Tryz.prog.goes 3 = false := by
  unfold Program.goes
  exact gt cA cB
theorem goesBy_of {P : Program} {c : OpenClaim} {f : FuncId} (hs : c.start = .entering) (hn : P.funcNamed c.func = some f) (hg : P.goes f = false) : false = c.goesBy P := by
  unfold OpenClaim.goesBy Program.goesAt Program.goesFrom
  rw [hs, hn]
  simp [hg]
theorem cG : false = Rows.walkGreatRow.goesBy Tryz.prog := goesBy_of (f := 3) rfl cN g3
set_option maxRecDepth 100000 in
theorem card_of (h : Rows.WalkGreatSaid) : Rows.WalkGreatCardSaid :=
  Claim7.holds_tied_plain_at .later [] [.handle] true (true, "638be5721d5289130965c0003f9bf481f5e648aec062b3f0546b9e179b6de304") true
    h (fun _ h => by cases h) cW (fun _ h => by cases h) row_tie rfl ⟨rfl, rfl⟩ cM rfl
    (fun f fn hf hfn => by
      obtain rfl : f = 3 := Option.some.inj (cN.symm.trans hf) |>.symm
      obtain rfl : fn = Tryz.f3 := (Option.some.inj (Tryz.func3.symm.trans hfn)).symm
      exact ⟨cL, fun j t ht => by
        rw [Tryz.params3] at ht
        rcases j with _ | _ | _ | _ | j
        · cases ht; exact c3
        · cases ht; exact c2
        · cases ht; exact c2
        · cases ht; exact c2
        · simp at ht⟩)
    cG
end Go.Proofs.YtdincjlkfbeedaaGreatDoor
