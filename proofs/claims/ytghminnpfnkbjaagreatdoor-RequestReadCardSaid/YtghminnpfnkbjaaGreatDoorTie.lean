/-
  DERIVED. GIVEN WITH THE SEED: THE PROGRAM's TIES (one call each: nine closed facts by the kernel) AND EACH ROW's TIE, after the 31st guide's Derived/Test/Toyas{Tie, Card}.lean. No idea stands in it: it is a product of the set-up. Laid BY PROGRAM, IN A SANDBOX (cutbox-door.mjs). By AI agents, Wed Nov 11 2026. No macro, syntax, notation, axiom, sorry.
-/
import Derived.Test.YtghminnpfnkbjaaGreatDoorRows
import Derived.LaidByTextLater
import Derived.SevenTiedAt
import Derived.LaidSub
import Derived.LaidOnce
namespace Go.Proofs.YtghminnpfnkbjaaGreatDoor
open Go
set_option maxRecDepth 100000
theorem seatTie1 : Tryz.prog.laidByTextLater [("unicode/utf8.acceptRanges", Rows.laid_unicode_utf8_acceptRanges), ("bulla/api.ErrRange", Rows.laid_bulla_api_ErrRange), ("bulla/api.ErrShort", Rows.laid_bulla_api_ErrShort), ("bulla/api.ErrLong", Rows.laid_bulla_api_ErrLong), ("bulla/api.ErrForm", Rows.laid_bulla_api_ErrForm), ("bulla/api.ErrTag", Rows.laid_bulla_api_ErrTag), ("bulla/api.ErrDepth", Rows.laid_bulla_api_ErrDepth), ("bulla/api.ErrOrder", Rows.laid_bulla_api_ErrOrder), ("bulla/api.ErrText", Rows.laid_bulla_api_ErrText), ("bulla/api.ErrName", Rows.laid_bulla_api_ErrName), ("bulla/api.ErrKey", Rows.laid_bulla_api_ErrKey), ("bulla/api.ErrProof", Rows.laid_bulla_api_ErrProof), ("bulla/api.ErrSign", Rows.laid_bulla_api_ErrSign), ("bulla/api.ErrExpired", Rows.laid_bulla_api_ErrExpired), ("bulla/api.ErrEarly", Rows.laid_bulla_api_ErrEarly), ("bulla/api.ErrUsage", Rows.laid_bulla_api_ErrUsage), ("bulla/api.ErrIssuer", Rows.laid_bulla_api_ErrIssuer), ("bulla/api.ErrRevoked", Rows.laid_bulla_api_ErrRevoked), ("bulla/api.ErrNone", Rows.laid_bulla_api_ErrNone), ("bulla/api.ErrExists", Rows.laid_bulla_api_ErrExists), ("bulla/api.ErrStale", Rows.laid_bulla_api_ErrStale), ("bulla/api.ErrQuota", Rows.laid_bulla_api_ErrQuota), ("bulla/api.ErrDenied", Rows.laid_bulla_api_ErrDenied), ("bulla/api.ErrAuth", Rows.laid_bulla_api_ErrAuth), ("bulla/api.ErrState", Rows.laid_bulla_api_ErrState), ("bulla/api.ErrDown", Rows.laid_bulla_api_ErrDown), ("bulla/api.ErrFull", Rows.laid_bulla_api_ErrFull), ("bulla/api.ErrCorrupt", Rows.laid_bulla_api_ErrCorrupt), ("bulla/api.ErrBusy", Rows.laid_bulla_api_ErrBusy), ("bulla/sha.constants", Rows.laid_bulla_sha_constants), ("bulla/sha.first", Rows.laid_bulla_sha_first)] [.data, .sentinel, .sentinel, .sentinel, .sentinel, .sentinel, .sentinel, .sentinel, .sentinel, .sentinel, .sentinel, .sentinel, .sentinel, .sentinel, .sentinel, .sentinel, .sentinel, .sentinel, .sentinel, .sentinel, .sentinel, .sentinel, .sentinel, .sentinel, .sentinel, .sentinel, .sentinel, .sentinel, .sentinel, .data, .data] true :=
  Program.laidByTextLater_by_one 561 8 65 (by kernel_rfl) (by kernel_rfl) (by kernel_rfl) (by kernel_rfl) (by kernel_rfl) (by kernel_rfl) (fun _ _ => by kernel_rfl)
theorem pin_laid_unicode_utf8_first : Tryz.pinned.checked.prog.pinnedFits "unicode/utf8.first" = true := by kernel_rfl
theorem noOwnUnsafe : Tryz.pinned.checked.prog.headLifts.contains "ownunsafe" = false := by kernel_rfl
theorem fits1 : Tryz.pinned.checked.prog.listedFits [("unicode/utf8.acceptRanges", Rows.laid_unicode_utf8_acceptRanges), ("bulla/api.ErrRange", Rows.laid_bulla_api_ErrRange), ("bulla/api.ErrShort", Rows.laid_bulla_api_ErrShort), ("bulla/api.ErrLong", Rows.laid_bulla_api_ErrLong), ("bulla/api.ErrForm", Rows.laid_bulla_api_ErrForm), ("bulla/api.ErrTag", Rows.laid_bulla_api_ErrTag), ("bulla/api.ErrDepth", Rows.laid_bulla_api_ErrDepth), ("bulla/api.ErrOrder", Rows.laid_bulla_api_ErrOrder), ("bulla/api.ErrText", Rows.laid_bulla_api_ErrText), ("bulla/api.ErrName", Rows.laid_bulla_api_ErrName), ("bulla/api.ErrKey", Rows.laid_bulla_api_ErrKey), ("bulla/api.ErrProof", Rows.laid_bulla_api_ErrProof), ("bulla/api.ErrSign", Rows.laid_bulla_api_ErrSign), ("bulla/api.ErrExpired", Rows.laid_bulla_api_ErrExpired), ("bulla/api.ErrEarly", Rows.laid_bulla_api_ErrEarly), ("bulla/api.ErrUsage", Rows.laid_bulla_api_ErrUsage), ("bulla/api.ErrIssuer", Rows.laid_bulla_api_ErrIssuer), ("bulla/api.ErrRevoked", Rows.laid_bulla_api_ErrRevoked), ("bulla/api.ErrNone", Rows.laid_bulla_api_ErrNone), ("bulla/api.ErrExists", Rows.laid_bulla_api_ErrExists), ("bulla/api.ErrStale", Rows.laid_bulla_api_ErrStale), ("bulla/api.ErrQuota", Rows.laid_bulla_api_ErrQuota), ("bulla/api.ErrDenied", Rows.laid_bulla_api_ErrDenied), ("bulla/api.ErrAuth", Rows.laid_bulla_api_ErrAuth), ("bulla/api.ErrState", Rows.laid_bulla_api_ErrState), ("bulla/api.ErrDown", Rows.laid_bulla_api_ErrDown), ("bulla/api.ErrFull", Rows.laid_bulla_api_ErrFull), ("bulla/api.ErrCorrupt", Rows.laid_bulla_api_ErrCorrupt), ("bulla/api.ErrBusy", Rows.laid_bulla_api_ErrBusy), ("bulla/sha.constants", Rows.laid_bulla_sha_constants), ("bulla/sha.first", Rows.laid_bulla_sha_first), ("unicode/utf8.first", Rows.laid_unicode_utf8_first)] = true := by
  unfold Program.listedFits
  rw [noOwnUnsafe]
  kernel_rfl
theorem tie : Tryz.prog.laidByTextLater [("unicode/utf8.acceptRanges", Rows.laid_unicode_utf8_acceptRanges), ("bulla/api.ErrRange", Rows.laid_bulla_api_ErrRange), ("bulla/api.ErrShort", Rows.laid_bulla_api_ErrShort), ("bulla/api.ErrLong", Rows.laid_bulla_api_ErrLong), ("bulla/api.ErrForm", Rows.laid_bulla_api_ErrForm), ("bulla/api.ErrTag", Rows.laid_bulla_api_ErrTag), ("bulla/api.ErrDepth", Rows.laid_bulla_api_ErrDepth), ("bulla/api.ErrOrder", Rows.laid_bulla_api_ErrOrder), ("bulla/api.ErrText", Rows.laid_bulla_api_ErrText), ("bulla/api.ErrName", Rows.laid_bulla_api_ErrName), ("bulla/api.ErrKey", Rows.laid_bulla_api_ErrKey), ("bulla/api.ErrProof", Rows.laid_bulla_api_ErrProof), ("bulla/api.ErrSign", Rows.laid_bulla_api_ErrSign), ("bulla/api.ErrExpired", Rows.laid_bulla_api_ErrExpired), ("bulla/api.ErrEarly", Rows.laid_bulla_api_ErrEarly), ("bulla/api.ErrUsage", Rows.laid_bulla_api_ErrUsage), ("bulla/api.ErrIssuer", Rows.laid_bulla_api_ErrIssuer), ("bulla/api.ErrRevoked", Rows.laid_bulla_api_ErrRevoked), ("bulla/api.ErrNone", Rows.laid_bulla_api_ErrNone), ("bulla/api.ErrExists", Rows.laid_bulla_api_ErrExists), ("bulla/api.ErrStale", Rows.laid_bulla_api_ErrStale), ("bulla/api.ErrQuota", Rows.laid_bulla_api_ErrQuota), ("bulla/api.ErrDenied", Rows.laid_bulla_api_ErrDenied), ("bulla/api.ErrAuth", Rows.laid_bulla_api_ErrAuth), ("bulla/api.ErrState", Rows.laid_bulla_api_ErrState), ("bulla/api.ErrDown", Rows.laid_bulla_api_ErrDown), ("bulla/api.ErrFull", Rows.laid_bulla_api_ErrFull), ("bulla/api.ErrCorrupt", Rows.laid_bulla_api_ErrCorrupt), ("bulla/api.ErrBusy", Rows.laid_bulla_api_ErrBusy), ("bulla/sha.constants", Rows.laid_bulla_sha_constants), ("bulla/sha.first", Rows.laid_bulla_sha_first)] [.data, .sentinel, .sentinel, .sentinel, .sentinel, .sentinel, .sentinel, .sentinel, .sentinel, .sentinel, .sentinel, .sentinel, .sentinel, .sentinel, .sentinel, .sentinel, .sentinel, .sentinel, .sentinel, .sentinel, .sentinel, .sentinel, .sentinel, .sentinel, .sentinel, .sentinel, .sentinel, .sentinel, .sentinel, .data, .data] true :=
  Program.laidByTextLater.sub seatTie1 ["unicode/utf8.acceptRanges", "bulla/api.ErrRange", "bulla/api.ErrShort", "bulla/api.ErrLong", "bulla/api.ErrForm", "bulla/api.ErrTag", "bulla/api.ErrDepth", "bulla/api.ErrOrder", "bulla/api.ErrText", "bulla/api.ErrName", "bulla/api.ErrKey", "bulla/api.ErrProof", "bulla/api.ErrSign", "bulla/api.ErrExpired", "bulla/api.ErrEarly", "bulla/api.ErrUsage", "bulla/api.ErrIssuer", "bulla/api.ErrRevoked", "bulla/api.ErrNone", "bulla/api.ErrExists", "bulla/api.ErrStale", "bulla/api.ErrQuota", "bulla/api.ErrDenied", "bulla/api.ErrAuth", "bulla/api.ErrState", "bulla/api.ErrDown", "bulla/api.ErrFull", "bulla/api.ErrCorrupt", "bulla/api.ErrBusy", "bulla/sha.constants", "bulla/sha.first"] (by kernel_rfl) (by kernel_rfl)
theorem requestProof_row_tie : Rows.requestProofRow.laidByTextAt .later Tryz.pinned [.data, .sentinel, .sentinel, .sentinel, .sentinel, .sentinel, .sentinel, .sentinel, .sentinel, .sentinel, .sentinel, .sentinel, .sentinel, .sentinel, .sentinel, .sentinel, .sentinel, .sentinel, .sentinel, .sentinel, .sentinel, .sentinel, .sentinel, .sentinel, .sentinel, .sentinel, .sentinel, .sentinel, .sentinel, .data, .data, .pinned] true :=
  OpenClaim.laidByTextAt_pinned rfl rfl tie rfl rfl rfl rfl (fun y hy _e => by
    simp only [Rows.requestProofRow, List.zip_cons_cons, List.zip_nil_right, List.mem_cons, List.mem_nil_iff, or_false] at hy
    rcases hy with rfl | rfl | rfl | rfl | rfl | rfl | rfl | rfl | rfl | rfl | rfl | rfl | rfl | rfl | rfl | rfl | rfl | rfl | rfl | rfl | rfl | rfl | rfl | rfl | rfl | rfl | rfl | rfl | rfl | rfl | rfl | rfl
    · cases _e
    · cases _e
    · cases _e
    · cases _e
    · cases _e
    · cases _e
    · cases _e
    · cases _e
    · cases _e
    · cases _e
    · cases _e
    · cases _e
    · cases _e
    · cases _e
    · cases _e
    · cases _e
    · cases _e
    · cases _e
    · cases _e
    · cases _e
    · cases _e
    · cases _e
    · cases _e
    · cases _e
    · cases _e
    · cases _e
    · cases _e
    · cases _e
    · cases _e
    · cases _e
    · cases _e
    · exact ⟨pin_laid_unicode_utf8_first, by kernel_rfl⟩) fits1
theorem requestBody_row_tie : Rows.requestBodyRow.laidByTextAt .later Tryz.pinned [.data, .sentinel, .sentinel, .sentinel, .sentinel, .sentinel, .sentinel, .sentinel, .sentinel, .sentinel, .sentinel, .sentinel, .sentinel, .sentinel, .sentinel, .sentinel, .sentinel, .sentinel, .sentinel, .sentinel, .sentinel, .sentinel, .sentinel, .sentinel, .sentinel, .sentinel, .sentinel, .sentinel, .sentinel, .data, .data, .pinned] true :=
  OpenClaim.laidByTextAt_pinned rfl rfl tie rfl rfl rfl rfl (fun y hy _e => by
    simp only [Rows.requestBodyRow, List.zip_cons_cons, List.zip_nil_right, List.mem_cons, List.mem_nil_iff, or_false] at hy
    rcases hy with rfl | rfl | rfl | rfl | rfl | rfl | rfl | rfl | rfl | rfl | rfl | rfl | rfl | rfl | rfl | rfl | rfl | rfl | rfl | rfl | rfl | rfl | rfl | rfl | rfl | rfl | rfl | rfl | rfl | rfl | rfl | rfl
    · cases _e
    · cases _e
    · cases _e
    · cases _e
    · cases _e
    · cases _e
    · cases _e
    · cases _e
    · cases _e
    · cases _e
    · cases _e
    · cases _e
    · cases _e
    · cases _e
    · cases _e
    · cases _e
    · cases _e
    · cases _e
    · cases _e
    · cases _e
    · cases _e
    · cases _e
    · cases _e
    · cases _e
    · cases _e
    · cases _e
    · cases _e
    · cases _e
    · cases _e
    · cases _e
    · cases _e
    · exact ⟨pin_laid_unicode_utf8_first, by kernel_rfl⟩) fits1
theorem requestRead_row_tie : Rows.requestReadRow.laidByTextAt .later Tryz.pinned [.data, .sentinel, .sentinel, .sentinel, .sentinel, .sentinel, .sentinel, .sentinel, .sentinel, .sentinel, .sentinel, .sentinel, .sentinel, .sentinel, .sentinel, .sentinel, .sentinel, .sentinel, .sentinel, .sentinel, .sentinel, .sentinel, .sentinel, .sentinel, .sentinel, .sentinel, .sentinel, .sentinel, .sentinel, .data, .data, .pinned] true :=
  OpenClaim.laidByTextAt_pinned rfl rfl tie rfl rfl rfl rfl (fun y hy _e => by
    simp only [Rows.requestReadRow, List.zip_cons_cons, List.zip_nil_right, List.mem_cons, List.mem_nil_iff, or_false] at hy
    rcases hy with rfl | rfl | rfl | rfl | rfl | rfl | rfl | rfl | rfl | rfl | rfl | rfl | rfl | rfl | rfl | rfl | rfl | rfl | rfl | rfl | rfl | rfl | rfl | rfl | rfl | rfl | rfl | rfl | rfl | rfl | rfl | rfl
    · cases _e
    · cases _e
    · cases _e
    · cases _e
    · cases _e
    · cases _e
    · cases _e
    · cases _e
    · cases _e
    · cases _e
    · cases _e
    · cases _e
    · cases _e
    · cases _e
    · cases _e
    · cases _e
    · cases _e
    · cases _e
    · cases _e
    · cases _e
    · cases _e
    · cases _e
    · cases _e
    · cases _e
    · cases _e
    · cases _e
    · cases _e
    · cases _e
    · cases _e
    · cases _e
    · cases _e
    · exact ⟨pin_laid_unicode_utf8_first, by kernel_rfl⟩) fits1
theorem requestProofUpto_row_tie : Rows.requestProofUptoRow.laidByTextAt .later Tryz.pinned [.data, .sentinel, .sentinel, .sentinel, .sentinel, .sentinel, .sentinel, .sentinel, .sentinel, .sentinel, .sentinel, .sentinel, .sentinel, .sentinel, .sentinel, .sentinel, .sentinel, .sentinel, .sentinel, .sentinel, .sentinel, .sentinel, .sentinel, .sentinel, .sentinel, .sentinel, .sentinel, .sentinel, .sentinel, .data, .data, .pinned] true :=
  OpenClaim.laidByTextAt_pinned rfl rfl tie rfl rfl rfl rfl (fun y hy _e => by
    simp only [Rows.requestProofUptoRow, List.zip_cons_cons, List.zip_nil_right, List.mem_cons, List.mem_nil_iff, or_false] at hy
    rcases hy with rfl | rfl | rfl | rfl | rfl | rfl | rfl | rfl | rfl | rfl | rfl | rfl | rfl | rfl | rfl | rfl | rfl | rfl | rfl | rfl | rfl | rfl | rfl | rfl | rfl | rfl | rfl | rfl | rfl | rfl | rfl | rfl
    · cases _e
    · cases _e
    · cases _e
    · cases _e
    · cases _e
    · cases _e
    · cases _e
    · cases _e
    · cases _e
    · cases _e
    · cases _e
    · cases _e
    · cases _e
    · cases _e
    · cases _e
    · cases _e
    · cases _e
    · cases _e
    · cases _e
    · cases _e
    · cases _e
    · cases _e
    · cases _e
    · cases _e
    · cases _e
    · cases _e
    · cases _e
    · cases _e
    · cases _e
    · cases _e
    · cases _e
    · exact ⟨pin_laid_unicode_utf8_first, by kernel_rfl⟩) fits1
theorem requestBodyUpto_row_tie : Rows.requestBodyUptoRow.laidByTextAt .later Tryz.pinned [.data, .sentinel, .sentinel, .sentinel, .sentinel, .sentinel, .sentinel, .sentinel, .sentinel, .sentinel, .sentinel, .sentinel, .sentinel, .sentinel, .sentinel, .sentinel, .sentinel, .sentinel, .sentinel, .sentinel, .sentinel, .sentinel, .sentinel, .sentinel, .sentinel, .sentinel, .sentinel, .sentinel, .sentinel, .data, .data, .pinned] true :=
  OpenClaim.laidByTextAt_pinned rfl rfl tie rfl rfl rfl rfl (fun y hy _e => by
    simp only [Rows.requestBodyUptoRow, List.zip_cons_cons, List.zip_nil_right, List.mem_cons, List.mem_nil_iff, or_false] at hy
    rcases hy with rfl | rfl | rfl | rfl | rfl | rfl | rfl | rfl | rfl | rfl | rfl | rfl | rfl | rfl | rfl | rfl | rfl | rfl | rfl | rfl | rfl | rfl | rfl | rfl | rfl | rfl | rfl | rfl | rfl | rfl | rfl | rfl
    · cases _e
    · cases _e
    · cases _e
    · cases _e
    · cases _e
    · cases _e
    · cases _e
    · cases _e
    · cases _e
    · cases _e
    · cases _e
    · cases _e
    · cases _e
    · cases _e
    · cases _e
    · cases _e
    · cases _e
    · cases _e
    · cases _e
    · cases _e
    · cases _e
    · cases _e
    · cases _e
    · cases _e
    · cases _e
    · cases _e
    · cases _e
    · cases _e
    · cases _e
    · cases _e
    · cases _e
    · exact ⟨pin_laid_unicode_utf8_first, by kernel_rfl⟩) fits1
theorem requestReadUpto_row_tie : Rows.requestReadUptoRow.laidByTextAt .later Tryz.pinned [.data, .sentinel, .sentinel, .sentinel, .sentinel, .sentinel, .sentinel, .sentinel, .sentinel, .sentinel, .sentinel, .sentinel, .sentinel, .sentinel, .sentinel, .sentinel, .sentinel, .sentinel, .sentinel, .sentinel, .sentinel, .sentinel, .sentinel, .sentinel, .sentinel, .sentinel, .sentinel, .sentinel, .sentinel, .data, .data, .pinned] true :=
  OpenClaim.laidByTextAt_pinned rfl rfl tie rfl rfl rfl rfl (fun y hy _e => by
    simp only [Rows.requestReadUptoRow, List.zip_cons_cons, List.zip_nil_right, List.mem_cons, List.mem_nil_iff, or_false] at hy
    rcases hy with rfl | rfl | rfl | rfl | rfl | rfl | rfl | rfl | rfl | rfl | rfl | rfl | rfl | rfl | rfl | rfl | rfl | rfl | rfl | rfl | rfl | rfl | rfl | rfl | rfl | rfl | rfl | rfl | rfl | rfl | rfl | rfl
    · cases _e
    · cases _e
    · cases _e
    · cases _e
    · cases _e
    · cases _e
    · cases _e
    · cases _e
    · cases _e
    · cases _e
    · cases _e
    · cases _e
    · cases _e
    · cases _e
    · cases _e
    · cases _e
    · cases _e
    · cases _e
    · cases _e
    · cases _e
    · cases _e
    · cases _e
    · cases _e
    · cases _e
    · cases _e
    · cases _e
    · cases _e
    · cases _e
    · cases _e
    · cases _e
    · cases _e
    · exact ⟨pin_laid_unicode_utf8_first, by kernel_rfl⟩) fits1
end Go.Proofs.YtghminnpfnkbjaaGreatDoor
