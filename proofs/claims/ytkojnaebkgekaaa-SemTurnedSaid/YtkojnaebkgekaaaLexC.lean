/- The tokens of the text that 'lives' reads. -/
import Derived.Test.YtkojnaebkgekaaaLexB
set_option linter.unusedVariables false
namespace Go.Proofs.Ytkojnaebkgekaaa
open Go.RowKit Go.Proofs.YtkojnaebkgekaaaW.PrintWords
def textS : ByteArray := ⟨#[97,114,99,104,32,120,56,54,95,54,52,59,102,111,114,101,105,103,110,32,107,105,108,108,95,112,114,111,99,101,115,115,59,100,101,102,97,117,108,116,32,101,114,114,110,111,32,49,59,111,110,32,114,101,97,100,44,32,119,114,105,116,101,44,32,50,51,49,32,100,111,32,97,108,108,111,119,59,111,110,32,111,112,101,110,97,116,32,119,104,101,110,32,97,114,103,50,32,38,32,48,120,51,32,61,61,32,48,32,97,110,100,32,110,111,116,32,40,97,114,103,49,32,62,32,53,32,111,114,32,105,112,32,60,32,52,48,57,54,41,32,100,111,32,108,111,103,59]⟩
def toksT : List Token := (lexS 200 textS 200 0).getD []
theorem lexS_text : lexS 200 textS 200 0 = some toksT := by
  have h : (lexS 200 textS 200 0).isSome = true := by decide +kernel
  obtain ⟨l, hl⟩ := Option.isSome_iff_exists.1 h
  rw [toksT, hl]
  rfl
theorem toksT_len : toksT.length ≤ 100000 := by decide +kernel
end Go.Proofs.Ytkojnaebkgekaaa
