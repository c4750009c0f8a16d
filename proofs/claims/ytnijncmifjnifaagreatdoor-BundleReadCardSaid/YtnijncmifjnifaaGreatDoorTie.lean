/-
  DERIVED. GIVEN WITH THE SEED: THE PROGRAM's TIES (one call each: nine closed facts by the kernel) AND EACH ROW's TIE, after the 31st guide's Derived/Test/Toyas{Tie, Card}.lean. No idea stands in it: it is a product of the set-up. Laid BY PROGRAM, IN A SANDBOX (cutbox-door.mjs). By AI agents, Wed Nov 11 2026. No macro, syntax, notation, axiom, sorry.
-/
import Derived.Test.YtnijncmifjnifaaGreatDoorRows
import Derived.LaidByTextLater
import Derived.SevenTiedAt
import Derived.LaidSub
import Derived.LaidOnce
namespace Go.Proofs.YtnijncmifjnifaaGreatDoor
open Go
set_option maxRecDepth 100000
theorem seatTie1 : Tryz.prog.laidByTextLater [("unicode/utf8.acceptRanges", Rows.laid_unicode_utf8_acceptRanges), ("bulla/api.ErrRange", Rows.laid_bulla_api_ErrRange), ("bulla/api.ErrShort", Rows.laid_bulla_api_ErrShort), ("bulla/api.ErrLong", Rows.laid_bulla_api_ErrLong), ("bulla/api.ErrForm", Rows.laid_bulla_api_ErrForm), ("bulla/api.ErrTag", Rows.laid_bulla_api_ErrTag), ("bulla/api.ErrDepth", Rows.laid_bulla_api_ErrDepth), ("bulla/api.ErrOrder", Rows.laid_bulla_api_ErrOrder), ("bulla/api.ErrText", Rows.laid_bulla_api_ErrText), ("bulla/api.ErrName", Rows.laid_bulla_api_ErrName), ("bulla/api.ErrKey", Rows.laid_bulla_api_ErrKey), ("bulla/api.ErrProof", Rows.laid_bulla_api_ErrProof), ("bulla/api.ErrSign", Rows.laid_bulla_api_ErrSign), ("bulla/api.ErrExpired", Rows.laid_bulla_api_ErrExpired), ("bulla/api.ErrEarly", Rows.laid_bulla_api_ErrEarly), ("bulla/api.ErrUsage", Rows.laid_bulla_api_ErrUsage), ("bulla/api.ErrIssuer", Rows.laid_bulla_api_ErrIssuer), ("bulla/api.ErrRevoked", Rows.laid_bulla_api_ErrRevoked), ("bulla/api.ErrNone", Rows.laid_bulla_api_ErrNone), ("bulla/api.ErrExists", Rows.laid_bulla_api_ErrExists), ("bulla/api.ErrStale", Rows.laid_bulla_api_ErrStale), ("bulla/api.ErrQuota", Rows.laid_bulla_api_ErrQuota), ("bulla/api.ErrDenied", Rows.laid_bulla_api_ErrDenied), ("bulla/api.ErrAuth", Rows.laid_bulla_api_ErrAuth), ("bulla/api.ErrState", Rows.laid_bulla_api_ErrState), ("bulla/api.ErrDown", Rows.laid_bulla_api_ErrDown), ("bulla/api.ErrFull", Rows.laid_bulla_api_ErrFull), ("bulla/api.ErrCorrupt", Rows.laid_bulla_api_ErrCorrupt), ("bulla/api.ErrBusy", Rows.laid_bulla_api_ErrBusy)] [.data, .sentinel, .sentinel, .sentinel, .sentinel, .sentinel, .sentinel, .sentinel, .sentinel, .sentinel, .sentinel, .sentinel, .sentinel, .sentinel, .sentinel, .sentinel, .sentinel, .sentinel, .sentinel, .sentinel, .sentinel, .sentinel, .sentinel, .sentinel, .sentinel, .sentinel, .sentinel, .sentinel, .sentinel] true :=
  Program.laidByTextLater_by_one 551 8 33 (by kernel_rfl) (by kernel_rfl) (by kernel_rfl) (by kernel_rfl) (by kernel_rfl) (by kernel_rfl) (fun _ _ => by kernel_rfl)
theorem pin_laid_unicode_utf8_first : Tryz.pinned.checked.prog.pinnedFits "unicode/utf8.first" = true := by kernel_rfl
theorem noOwnUnsafe : Tryz.pinned.checked.prog.headLifts.contains "ownunsafe" = false := by kernel_rfl
theorem fits1 : Tryz.pinned.checked.prog.listedFits [("unicode/utf8.acceptRanges", Rows.laid_unicode_utf8_acceptRanges), ("bulla/api.ErrRange", Rows.laid_bulla_api_ErrRange), ("bulla/api.ErrShort", Rows.laid_bulla_api_ErrShort), ("bulla/api.ErrLong", Rows.laid_bulla_api_ErrLong), ("bulla/api.ErrForm", Rows.laid_bulla_api_ErrForm), ("bulla/api.ErrTag", Rows.laid_bulla_api_ErrTag), ("bulla/api.ErrDepth", Rows.laid_bulla_api_ErrDepth), ("bulla/api.ErrOrder", Rows.laid_bulla_api_ErrOrder), ("bulla/api.ErrText", Rows.laid_bulla_api_ErrText), ("bulla/api.ErrName", Rows.laid_bulla_api_ErrName), ("bulla/api.ErrKey", Rows.laid_bulla_api_ErrKey), ("bulla/api.ErrProof", Rows.laid_bulla_api_ErrProof), ("bulla/api.ErrSign", Rows.laid_bulla_api_ErrSign), ("bulla/api.ErrExpired", Rows.laid_bulla_api_ErrExpired), ("bulla/api.ErrEarly", Rows.laid_bulla_api_ErrEarly), ("bulla/api.ErrUsage", Rows.laid_bulla_api_ErrUsage), ("bulla/api.ErrIssuer", Rows.laid_bulla_api_ErrIssuer), ("bulla/api.ErrRevoked", Rows.laid_bulla_api_ErrRevoked), ("bulla/api.ErrNone", Rows.laid_bulla_api_ErrNone), ("bulla/api.ErrExists", Rows.laid_bulla_api_ErrExists), ("bulla/api.ErrStale", Rows.laid_bulla_api_ErrStale), ("bulla/api.ErrQuota", Rows.laid_bulla_api_ErrQuota), ("bulla/api.ErrDenied", Rows.laid_bulla_api_ErrDenied), ("bulla/api.ErrAuth", Rows.laid_bulla_api_ErrAuth), ("bulla/api.ErrState", Rows.laid_bulla_api_ErrState), ("bulla/api.ErrDown", Rows.laid_bulla_api_ErrDown), ("bulla/api.ErrFull", Rows.laid_bulla_api_ErrFull), ("bulla/api.ErrCorrupt", Rows.laid_bulla_api_ErrCorrupt), ("bulla/api.ErrBusy", Rows.laid_bulla_api_ErrBusy), ("unicode/utf8.first", Rows.laid_unicode_utf8_first)] = true := by
  unfold Program.listedFits
  rw [noOwnUnsafe]
  kernel_rfl
theorem tie : Tryz.prog.laidByTextLater [("unicode/utf8.acceptRanges", Rows.laid_unicode_utf8_acceptRanges), ("bulla/api.ErrRange", Rows.laid_bulla_api_ErrRange), ("bulla/api.ErrShort", Rows.laid_bulla_api_ErrShort), ("bulla/api.ErrLong", Rows.laid_bulla_api_ErrLong), ("bulla/api.ErrForm", Rows.laid_bulla_api_ErrForm), ("bulla/api.ErrTag", Rows.laid_bulla_api_ErrTag), ("bulla/api.ErrDepth", Rows.laid_bulla_api_ErrDepth), ("bulla/api.ErrOrder", Rows.laid_bulla_api_ErrOrder), ("bulla/api.ErrText", Rows.laid_bulla_api_ErrText), ("bulla/api.ErrName", Rows.laid_bulla_api_ErrName), ("bulla/api.ErrKey", Rows.laid_bulla_api_ErrKey), ("bulla/api.ErrProof", Rows.laid_bulla_api_ErrProof), ("bulla/api.ErrSign", Rows.laid_bulla_api_ErrSign), ("bulla/api.ErrExpired", Rows.laid_bulla_api_ErrExpired), ("bulla/api.ErrEarly", Rows.laid_bulla_api_ErrEarly), ("bulla/api.ErrUsage", Rows.laid_bulla_api_ErrUsage), ("bulla/api.ErrIssuer", Rows.laid_bulla_api_ErrIssuer), ("bulla/api.ErrRevoked", Rows.laid_bulla_api_ErrRevoked), ("bulla/api.ErrNone", Rows.laid_bulla_api_ErrNone), ("bulla/api.ErrExists", Rows.laid_bulla_api_ErrExists), ("bulla/api.ErrStale", Rows.laid_bulla_api_ErrStale), ("bulla/api.ErrQuota", Rows.laid_bulla_api_ErrQuota), ("bulla/api.ErrDenied", Rows.laid_bulla_api_ErrDenied), ("bulla/api.ErrAuth", Rows.laid_bulla_api_ErrAuth), ("bulla/api.ErrState", Rows.laid_bulla_api_ErrState), ("bulla/api.ErrDown", Rows.laid_bulla_api_ErrDown), ("bulla/api.ErrFull", Rows.laid_bulla_api_ErrFull), ("bulla/api.ErrCorrupt", Rows.laid_bulla_api_ErrCorrupt), ("bulla/api.ErrBusy", Rows.laid_bulla_api_ErrBusy)] [.data, .sentinel, .sentinel, .sentinel, .sentinel, .sentinel, .sentinel, .sentinel, .sentinel, .sentinel, .sentinel, .sentinel, .sentinel, .sentinel, .sentinel, .sentinel, .sentinel, .sentinel, .sentinel, .sentinel, .sentinel, .sentinel, .sentinel, .sentinel, .sentinel, .sentinel, .sentinel, .sentinel, .sentinel] true :=
  Program.laidByTextLater.sub seatTie1 ["unicode/utf8.acceptRanges", "bulla/api.ErrRange", "bulla/api.ErrShort", "bulla/api.ErrLong", "bulla/api.ErrForm", "bulla/api.ErrTag", "bulla/api.ErrDepth", "bulla/api.ErrOrder", "bulla/api.ErrText", "bulla/api.ErrName", "bulla/api.ErrKey", "bulla/api.ErrProof", "bulla/api.ErrSign", "bulla/api.ErrExpired", "bulla/api.ErrEarly", "bulla/api.ErrUsage", "bulla/api.ErrIssuer", "bulla/api.ErrRevoked", "bulla/api.ErrNone", "bulla/api.ErrExists", "bulla/api.ErrStale", "bulla/api.ErrQuota", "bulla/api.ErrDenied", "bulla/api.ErrAuth", "bulla/api.ErrState", "bulla/api.ErrDown", "bulla/api.ErrFull", "bulla/api.ErrCorrupt", "bulla/api.ErrBusy"] (by kernel_rfl) (by kernel_rfl)
theorem bundleSteps_row_tie : Rows.bundleStepsRow.laidByTextAt .later Tryz.pinned [.data, .sentinel, .sentinel, .sentinel, .sentinel, .sentinel, .sentinel, .sentinel, .sentinel, .sentinel, .sentinel, .sentinel, .sentinel, .sentinel, .sentinel, .sentinel, .sentinel, .sentinel, .sentinel, .sentinel, .sentinel, .sentinel, .sentinel, .sentinel, .sentinel, .sentinel, .sentinel, .sentinel, .sentinel, .pinned] true :=
  OpenClaim.laidByTextAt_pinned rfl rfl tie rfl rfl rfl rfl (fun y hy _e => by
    simp only [Rows.bundleStepsRow, List.zip_cons_cons, List.zip_nil_right, List.mem_cons, List.mem_nil_iff, or_false] at hy
    rcases hy with rfl | rfl | rfl | rfl | rfl | rfl | rfl | rfl | rfl | rfl | rfl | rfl | rfl | rfl | rfl | rfl | rfl | rfl | rfl | rfl | rfl | rfl | rfl | rfl | rfl | rfl | rfl | rfl | rfl | rfl
    · cases _e
    · cases _e
    · cases _e
    · cases _e
    · cases _e
    · cases _e
    · cases _e
    · cases _e
    · cases _e
    · cases _e
    · cases _e
    · cases _e
    · cases _e
    · cases _e
    · cases _e
    · cases _e
    · cases _e
    · cases _e
    · cases _e
    · cases _e
    · cases _e
    · cases _e
    · cases _e
    · cases _e
    · cases _e
    · cases _e
    · cases _e
    · cases _e
    · cases _e
    · exact ⟨pin_laid_unicode_utf8_first, by kernel_rfl⟩) fits1
theorem bundleAny_row_tie : Rows.bundleAnyRow.laidByTextAt .later Tryz.pinned [.data, .sentinel, .sentinel, .sentinel, .sentinel, .sentinel, .sentinel, .sentinel, .sentinel, .sentinel, .sentinel, .sentinel, .sentinel, .sentinel, .sentinel, .sentinel, .sentinel, .sentinel, .sentinel, .sentinel, .sentinel, .sentinel, .sentinel, .sentinel, .sentinel, .sentinel, .sentinel, .sentinel, .sentinel, .pinned] true :=
  OpenClaim.laidByTextAt_pinned rfl rfl tie rfl rfl rfl rfl (fun y hy _e => by
    simp only [Rows.bundleAnyRow, List.zip_cons_cons, List.zip_nil_right, List.mem_cons, List.mem_nil_iff, or_false] at hy
    rcases hy with rfl | rfl | rfl | rfl | rfl | rfl | rfl | rfl | rfl | rfl | rfl | rfl | rfl | rfl | rfl | rfl | rfl | rfl | rfl | rfl | rfl | rfl | rfl | rfl | rfl | rfl | rfl | rfl | rfl | rfl
    · cases _e
    · cases _e
    · cases _e
    · cases _e
    · cases _e
    · cases _e
    · cases _e
    · cases _e
    · cases _e
    · cases _e
    · cases _e
    · cases _e
    · cases _e
    · cases _e
    · cases _e
    · cases _e
    · cases _e
    · cases _e
    · cases _e
    · cases _e
    · cases _e
    · cases _e
    · cases _e
    · cases _e
    · cases _e
    · cases _e
    · cases _e
    · cases _e
    · cases _e
    · exact ⟨pin_laid_unicode_utf8_first, by kernel_rfl⟩) fits1
theorem bundleRead_row_tie : Rows.bundleReadRow.laidByTextAt .later Tryz.pinned [.data, .sentinel, .sentinel, .sentinel, .sentinel, .sentinel, .sentinel, .sentinel, .sentinel, .sentinel, .sentinel, .sentinel, .sentinel, .sentinel, .sentinel, .sentinel, .sentinel, .sentinel, .sentinel, .sentinel, .sentinel, .sentinel, .sentinel, .sentinel, .sentinel, .sentinel, .sentinel, .sentinel, .sentinel, .pinned] true :=
  OpenClaim.laidByTextAt_pinned rfl rfl tie rfl rfl rfl rfl (fun y hy _e => by
    simp only [Rows.bundleReadRow, List.zip_cons_cons, List.zip_nil_right, List.mem_cons, List.mem_nil_iff, or_false] at hy
    rcases hy with rfl | rfl | rfl | rfl | rfl | rfl | rfl | rfl | rfl | rfl | rfl | rfl | rfl | rfl | rfl | rfl | rfl | rfl | rfl | rfl | rfl | rfl | rfl | rfl | rfl | rfl | rfl | rfl | rfl | rfl
    · cases _e
    · cases _e
    · cases _e
    · cases _e
    · cases _e
    · cases _e
    · cases _e
    · cases _e
    · cases _e
    · cases _e
    · cases _e
    · cases _e
    · cases _e
    · cases _e
    · cases _e
    · cases _e
    · cases _e
    · cases _e
    · cases _e
    · cases _e
    · cases _e
    · cases _e
    · cases _e
    · cases _e
    · cases _e
    · cases _e
    · cases _e
    · cases _e
    · cases _e
    · exact ⟨pin_laid_unicode_utf8_first, by kernel_rfl⟩) fits1
theorem bundleBytes_row_tie : Rows.bundleBytesRow.laidByTextAt .later Tryz.pinned [.data, .sentinel, .sentinel, .sentinel, .sentinel, .sentinel, .sentinel, .sentinel, .sentinel, .sentinel, .sentinel, .sentinel, .sentinel, .sentinel, .sentinel, .sentinel, .sentinel, .sentinel, .sentinel, .sentinel, .sentinel, .sentinel, .sentinel, .sentinel, .sentinel, .sentinel, .sentinel, .sentinel, .sentinel, .pinned] true :=
  OpenClaim.laidByTextAt_pinned rfl rfl tie rfl rfl rfl rfl (fun y hy _e => by
    simp only [Rows.bundleBytesRow, List.zip_cons_cons, List.zip_nil_right, List.mem_cons, List.mem_nil_iff, or_false] at hy
    rcases hy with rfl | rfl | rfl | rfl | rfl | rfl | rfl | rfl | rfl | rfl | rfl | rfl | rfl | rfl | rfl | rfl | rfl | rfl | rfl | rfl | rfl | rfl | rfl | rfl | rfl | rfl | rfl | rfl | rfl | rfl
    · cases _e
    · cases _e
    · cases _e
    · cases _e
    · cases _e
    · cases _e
    · cases _e
    · cases _e
    · cases _e
    · cases _e
    · cases _e
    · cases _e
    · cases _e
    · cases _e
    · cases _e
    · cases _e
    · cases _e
    · cases _e
    · cases _e
    · cases _e
    · cases _e
    · cases _e
    · cases _e
    · cases _e
    · cases _e
    · cases _e
    · cases _e
    · cases _e
    · cases _e
    · exact ⟨pin_laid_unicode_utf8_first, by kernel_rfl⟩) fits1
theorem bundleStepsUpto_row_tie : Rows.bundleStepsUptoRow.laidByTextAt .later Tryz.pinned [.data, .sentinel, .sentinel, .sentinel, .sentinel, .sentinel, .sentinel, .sentinel, .sentinel, .sentinel, .sentinel, .sentinel, .sentinel, .sentinel, .sentinel, .sentinel, .sentinel, .sentinel, .sentinel, .sentinel, .sentinel, .sentinel, .sentinel, .sentinel, .sentinel, .sentinel, .sentinel, .sentinel, .sentinel, .pinned] true :=
  OpenClaim.laidByTextAt_pinned rfl rfl tie rfl rfl rfl rfl (fun y hy _e => by
    simp only [Rows.bundleStepsUptoRow, List.zip_cons_cons, List.zip_nil_right, List.mem_cons, List.mem_nil_iff, or_false] at hy
    rcases hy with rfl | rfl | rfl | rfl | rfl | rfl | rfl | rfl | rfl | rfl | rfl | rfl | rfl | rfl | rfl | rfl | rfl | rfl | rfl | rfl | rfl | rfl | rfl | rfl | rfl | rfl | rfl | rfl | rfl | rfl
    · cases _e
    · cases _e
    · cases _e
    · cases _e
    · cases _e
    · cases _e
    · cases _e
    · cases _e
    · cases _e
    · cases _e
    · cases _e
    · cases _e
    · cases _e
    · cases _e
    · cases _e
    · cases _e
    · cases _e
    · cases _e
    · cases _e
    · cases _e
    · cases _e
    · cases _e
    · cases _e
    · cases _e
    · cases _e
    · cases _e
    · cases _e
    · cases _e
    · cases _e
    · exact ⟨pin_laid_unicode_utf8_first, by kernel_rfl⟩) fits1
theorem bundleAnyUpto_row_tie : Rows.bundleAnyUptoRow.laidByTextAt .later Tryz.pinned [.data, .sentinel, .sentinel, .sentinel, .sentinel, .sentinel, .sentinel, .sentinel, .sentinel, .sentinel, .sentinel, .sentinel, .sentinel, .sentinel, .sentinel, .sentinel, .sentinel, .sentinel, .sentinel, .sentinel, .sentinel, .sentinel, .sentinel, .sentinel, .sentinel, .sentinel, .sentinel, .sentinel, .sentinel, .pinned] true :=
  OpenClaim.laidByTextAt_pinned rfl rfl tie rfl rfl rfl rfl (fun y hy _e => by
    simp only [Rows.bundleAnyUptoRow, List.zip_cons_cons, List.zip_nil_right, List.mem_cons, List.mem_nil_iff, or_false] at hy
    rcases hy with rfl | rfl | rfl | rfl | rfl | rfl | rfl | rfl | rfl | rfl | rfl | rfl | rfl | rfl | rfl | rfl | rfl | rfl | rfl | rfl | rfl | rfl | rfl | rfl | rfl | rfl | rfl | rfl | rfl | rfl
    · cases _e
    · cases _e
    · cases _e
    · cases _e
    · cases _e
    · cases _e
    · cases _e
    · cases _e
    · cases _e
    · cases _e
    · cases _e
    · cases _e
    · cases _e
    · cases _e
    · cases _e
    · cases _e
    · cases _e
    · cases _e
    · cases _e
    · cases _e
    · cases _e
    · cases _e
    · cases _e
    · cases _e
    · cases _e
    · cases _e
    · cases _e
    · cases _e
    · cases _e
    · exact ⟨pin_laid_unicode_utf8_first, by kernel_rfl⟩) fits1
theorem bundleReadUpto_row_tie : Rows.bundleReadUptoRow.laidByTextAt .later Tryz.pinned [.data, .sentinel, .sentinel, .sentinel, .sentinel, .sentinel, .sentinel, .sentinel, .sentinel, .sentinel, .sentinel, .sentinel, .sentinel, .sentinel, .sentinel, .sentinel, .sentinel, .sentinel, .sentinel, .sentinel, .sentinel, .sentinel, .sentinel, .sentinel, .sentinel, .sentinel, .sentinel, .sentinel, .sentinel, .pinned] true :=
  OpenClaim.laidByTextAt_pinned rfl rfl tie rfl rfl rfl rfl (fun y hy _e => by
    simp only [Rows.bundleReadUptoRow, List.zip_cons_cons, List.zip_nil_right, List.mem_cons, List.mem_nil_iff, or_false] at hy
    rcases hy with rfl | rfl | rfl | rfl | rfl | rfl | rfl | rfl | rfl | rfl | rfl | rfl | rfl | rfl | rfl | rfl | rfl | rfl | rfl | rfl | rfl | rfl | rfl | rfl | rfl | rfl | rfl | rfl | rfl | rfl
    · cases _e
    · cases _e
    · cases _e
    · cases _e
    · cases _e
    · cases _e
    · cases _e
    · cases _e
    · cases _e
    · cases _e
    · cases _e
    · cases _e
    · cases _e
    · cases _e
    · cases _e
    · cases _e
    · cases _e
    · cases _e
    · cases _e
    · cases _e
    · cases _e
    · cases _e
    · cases _e
    · cases _e
    · cases _e
    · cases _e
    · cases _e
    · cases _e
    · cases _e
    · exact ⟨pin_laid_unicode_utf8_first, by kernel_rfl⟩) fits1
theorem bundleBytesUpto_row_tie : Rows.bundleBytesUptoRow.laidByTextAt .later Tryz.pinned [.data, .sentinel, .sentinel, .sentinel, .sentinel, .sentinel, .sentinel, .sentinel, .sentinel, .sentinel, .sentinel, .sentinel, .sentinel, .sentinel, .sentinel, .sentinel, .sentinel, .sentinel, .sentinel, .sentinel, .sentinel, .sentinel, .sentinel, .sentinel, .sentinel, .sentinel, .sentinel, .sentinel, .sentinel, .pinned] true :=
  OpenClaim.laidByTextAt_pinned rfl rfl tie rfl rfl rfl rfl (fun y hy _e => by
    simp only [Rows.bundleBytesUptoRow, List.zip_cons_cons, List.zip_nil_right, List.mem_cons, List.mem_nil_iff, or_false] at hy
    rcases hy with rfl | rfl | rfl | rfl | rfl | rfl | rfl | rfl | rfl | rfl | rfl | rfl | rfl | rfl | rfl | rfl | rfl | rfl | rfl | rfl | rfl | rfl | rfl | rfl | rfl | rfl | rfl | rfl | rfl | rfl
    · cases _e
    · cases _e
    · cases _e
    · cases _e
    · cases _e
    · cases _e
    · cases _e
    · cases _e
    · cases _e
    · cases _e
    · cases _e
    · cases _e
    · cases _e
    · cases _e
    · cases _e
    · cases _e
    · cases _e
    · cases _e
    · cases _e
    · cases _e
    · cases _e
    · cases _e
    · cases _e
    · cases _e
    · cases _e
    · cases _e
    · cases _e
    · cases _e
    · cases _e
    · exact ⟨pin_laid_unicode_utf8_first, by kernel_rfl⟩) fits1
end Go.Proofs.YtnijncmifjnifaaGreatDoor
