/-
  DERIVED. GIVEN WITH THE SEED: THE CARDS: each row of YtlhifcnjnmeknaaGreatDoorRows.lean that lists a variable, with what it lists TIED to the program's text (the seventh form; the later family's looks); each row that meets fmt, with fmt's text TOLD by the authors' own Lean function (tested against real Go, not proved from fmt's source: count such statements apart). THE CARD IS WHAT COUNTS. Prove the row's statement (the work); the ties are given (YtlhifcnjnmeknaaGreatDoorTie.lean); close each card by the builder's one call (the guide's Derived/Test/ToyasCard.lean, 'card_holds'). Laid BY PROGRAM, IN A SANDBOX (cutbox-door.mjs). By AI agents, Wed Nov 11 2026. No macro, syntax, notation, axiom, sorry.
-/
import Derived.Test.YtlhifcnjnmeknaaGreatDoorRows
import GoSem.ClaimSeven
namespace Go.Proofs.YtlhifcnjnmeknaaGreatDoor
namespace Rows

/-- THE TIED CARD OF 'rondeaulaw24.JudgeFirst'. -/
def judgeFirstCard : Claim7 := { stood := { row := judgeFirstRow, standIns := [], harness := (true, "127e41f5bb3c0d7d560f63fa92226c8ce060403702e07b2b76fa275653234e9f"), looks := false }, kinds := [], alts := [], laidByText := true, laidKinds := [.data, .data, .data], laidTests := true, laidLooks := .later }
def JudgeFirstCardSaid : Prop := Claim7.holds Tryz.pinned (.plain (OpenSpec.ofChange judgeFirstSpec)) judgeFirstCard

/-- THE TIED CARD OF 'rondeaulaw24.JudgeCan'. -/
def judgeCanCard : Claim7 := { stood := { row := judgeCanRow, standIns := [], harness := (true, "127e41f5bb3c0d7d560f63fa92226c8ce060403702e07b2b76fa275653234e9f"), looks := false }, kinds := [], alts := [], laidByText := true, laidKinds := [.data, .data, .data], laidTests := true, laidLooks := .later }
def JudgeCanCardSaid : Prop := Claim7.holds Tryz.pinned (.plain (OpenSpec.ofChange judgeCanSpec)) judgeCanCard

/-- THE TIED CARD OF 'rondeaulaw24.JudgeStuck'. -/
def judgeStuckCard : Claim7 := { stood := { row := judgeStuckRow, standIns := [], harness := (true, "127e41f5bb3c0d7d560f63fa92226c8ce060403702e07b2b76fa275653234e9f"), looks := false }, kinds := [], alts := [], laidByText := true, laidKinds := [.data, .data, .data], laidTests := true, laidLooks := .later }
def JudgeStuckCardSaid : Prop := Claim7.holds Tryz.pinned (.plain (OpenSpec.ofChange judgeStuckSpec)) judgeStuckCard

/-- THE TIED CARD OF 'rondeaulaw24.JudgeWhy'. -/
def judgeWhyCard : Claim7 := { stood := { row := judgeWhyRow, standIns := [], harness := (true, "127e41f5bb3c0d7d560f63fa92226c8ce060403702e07b2b76fa275653234e9f"), looks := false }, kinds := [], alts := [], laidByText := true, laidKinds := [.data, .data, .data], laidTests := true, laidLooks := .later }
def JudgeWhyCardSaid : Prop := Claim7.holds Tryz.pinned (.plain (OpenSpec.ofChange judgeWhySpec)) judgeWhyCard

/-- THE TIED CARD OF 'rondeaulaw24.JudgeAllows'. -/
def judgeAllowsCard : Claim7 := { stood := { row := judgeAllowsRow, standIns := [], harness := (true, "127e41f5bb3c0d7d560f63fa92226c8ce060403702e07b2b76fa275653234e9f"), looks := false }, kinds := [], alts := [], laidByText := true, laidKinds := [.data, .data, .data], laidTests := true, laidLooks := .later }
def JudgeAllowsCardSaid : Prop := Claim7.holds Tryz.pinned (.plain (OpenSpec.ofChange judgeAllowsSpec)) judgeAllowsCard

/-- THE TIED CARD OF 'rondeaulaw24.JudgeStays'. -/
def judgeStaysCard : Claim7 := { stood := { row := judgeStaysRow, standIns := [], harness := (true, "127e41f5bb3c0d7d560f63fa92226c8ce060403702e07b2b76fa275653234e9f"), looks := false }, kinds := [], alts := [], laidByText := true, laidKinds := [.data, .data, .data], laidTests := true, laidLooks := .later }
def JudgeStaysCardSaid : Prop := Claim7.holds Tryz.pinned (.plain (OpenSpec.ofChange judgeStaysSpec)) judgeStaysCard

/-- THE TIED CARD OF 'rondeaulaw24.JudgeSound'. -/
def judgeSoundCard : Claim7 := { stood := { row := judgeSoundRow, standIns := [], harness := (true, "127e41f5bb3c0d7d560f63fa92226c8ce060403702e07b2b76fa275653234e9f"), looks := false }, kinds := [], alts := [], laidByText := true, laidKinds := [.data, .data, .data], laidTests := true, laidLooks := .later }
def JudgeSoundCardSaid : Prop := Claim7.holds Tryz.pinned (.plain (OpenSpec.ofChange judgeSoundSpec)) judgeSoundCard

/-- THE TIED CARD OF 'rondeaulaw24.JudgeComplete'. -/
def judgeCompleteCard : Claim7 := { stood := { row := judgeCompleteRow, standIns := [], harness := (true, "127e41f5bb3c0d7d560f63fa92226c8ce060403702e07b2b76fa275653234e9f"), looks := false }, kinds := [], alts := [], laidByText := true, laidKinds := [.data, .data, .data], laidTests := true, laidLooks := .later }
def JudgeCompleteCardSaid : Prop := Claim7.holds Tryz.pinned (.plain (OpenSpec.ofChange judgeCompleteSpec)) judgeCompleteCard

/-- THE SECOND FORM's CARD OF 'rondeaulaw24.JudgeFirst'. -/
def judgeFirstUptoCard : Claim7 := { stood := { row := judgeFirstUptoRow, standIns := [], harness := (true, "127e41f5bb3c0d7d560f63fa92226c8ce060403702e07b2b76fa275653234e9f"), looks := false }, kinds := [], alts := [], laidByText := true, laidKinds := [.data, .data, .data], laidTests := true, laidLooks := .later }
def JudgeFirstUptoCardSaid : Prop := Claim7.holds Tryz.pinned (.plain (OpenSpec.upto judgeFirstSpec)) judgeFirstUptoCard

/-- THE SECOND FORM's CARD OF 'rondeaulaw24.JudgeCan'. -/
def judgeCanUptoCard : Claim7 := { stood := { row := judgeCanUptoRow, standIns := [], harness := (true, "127e41f5bb3c0d7d560f63fa92226c8ce060403702e07b2b76fa275653234e9f"), looks := false }, kinds := [], alts := [], laidByText := true, laidKinds := [.data, .data, .data], laidTests := true, laidLooks := .later }
def JudgeCanUptoCardSaid : Prop := Claim7.holds Tryz.pinned (.plain (OpenSpec.upto judgeCanSpec)) judgeCanUptoCard

/-- THE SECOND FORM's CARD OF 'rondeaulaw24.JudgeStuck'. -/
def judgeStuckUptoCard : Claim7 := { stood := { row := judgeStuckUptoRow, standIns := [], harness := (true, "127e41f5bb3c0d7d560f63fa92226c8ce060403702e07b2b76fa275653234e9f"), looks := false }, kinds := [], alts := [], laidByText := true, laidKinds := [.data, .data, .data], laidTests := true, laidLooks := .later }
def JudgeStuckUptoCardSaid : Prop := Claim7.holds Tryz.pinned (.plain (OpenSpec.upto judgeStuckSpec)) judgeStuckUptoCard

/-- THE SECOND FORM's CARD OF 'rondeaulaw24.JudgeWhy'. -/
def judgeWhyUptoCard : Claim7 := { stood := { row := judgeWhyUptoRow, standIns := [], harness := (true, "127e41f5bb3c0d7d560f63fa92226c8ce060403702e07b2b76fa275653234e9f"), looks := false }, kinds := [], alts := [], laidByText := true, laidKinds := [.data, .data, .data], laidTests := true, laidLooks := .later }
def JudgeWhyUptoCardSaid : Prop := Claim7.holds Tryz.pinned (.plain (OpenSpec.upto judgeWhySpec)) judgeWhyUptoCard

/-- THE SECOND FORM's CARD OF 'rondeaulaw24.JudgeAllows'. -/
def judgeAllowsUptoCard : Claim7 := { stood := { row := judgeAllowsUptoRow, standIns := [], harness := (true, "127e41f5bb3c0d7d560f63fa92226c8ce060403702e07b2b76fa275653234e9f"), looks := false }, kinds := [], alts := [], laidByText := true, laidKinds := [.data, .data, .data], laidTests := true, laidLooks := .later }
def JudgeAllowsUptoCardSaid : Prop := Claim7.holds Tryz.pinned (.plain (OpenSpec.upto judgeAllowsSpec)) judgeAllowsUptoCard

/-- THE SECOND FORM's CARD OF 'rondeaulaw24.JudgeStays'. -/
def judgeStaysUptoCard : Claim7 := { stood := { row := judgeStaysUptoRow, standIns := [], harness := (true, "127e41f5bb3c0d7d560f63fa92226c8ce060403702e07b2b76fa275653234e9f"), looks := false }, kinds := [], alts := [], laidByText := true, laidKinds := [.data, .data, .data], laidTests := true, laidLooks := .later }
def JudgeStaysUptoCardSaid : Prop := Claim7.holds Tryz.pinned (.plain (OpenSpec.upto judgeStaysSpec)) judgeStaysUptoCard

/-- THE SECOND FORM's CARD OF 'rondeaulaw24.JudgeSound'. -/
def judgeSoundUptoCard : Claim7 := { stood := { row := judgeSoundUptoRow, standIns := [], harness := (true, "127e41f5bb3c0d7d560f63fa92226c8ce060403702e07b2b76fa275653234e9f"), looks := false }, kinds := [], alts := [], laidByText := true, laidKinds := [.data, .data, .data], laidTests := true, laidLooks := .later }
def JudgeSoundUptoCardSaid : Prop := Claim7.holds Tryz.pinned (.plain (OpenSpec.upto judgeSoundSpec)) judgeSoundUptoCard

/-- THE SECOND FORM's CARD OF 'rondeaulaw24.JudgeComplete'. -/
def judgeCompleteUptoCard : Claim7 := { stood := { row := judgeCompleteUptoRow, standIns := [], harness := (true, "127e41f5bb3c0d7d560f63fa92226c8ce060403702e07b2b76fa275653234e9f"), looks := false }, kinds := [], alts := [], laidByText := true, laidKinds := [.data, .data, .data], laidTests := true, laidLooks := .later }
def JudgeCompleteUptoCardSaid : Prop := Claim7.holds Tryz.pinned (.plain (OpenSpec.upto judgeCompleteSpec)) judgeCompleteUptoCard
end Rows
end Go.Proofs.YtlhifcnjnmeknaaGreatDoor
