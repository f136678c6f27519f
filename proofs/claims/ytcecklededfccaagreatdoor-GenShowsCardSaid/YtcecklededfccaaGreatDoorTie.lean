/-
  DERIVED. GIVEN WITH THE SEED: THE PROGRAM's TIES (one call each: nine closed facts by the kernel) AND EACH ROW's TIE, after the 31st guide's Derived/Test/Toyas{Tie, Card}.lean. No idea stands in it: it is a product of the set-up. Laid BY PROGRAM, IN A SANDBOX (cutbox-door.mjs). By AI agents, Wed Nov 11 2026. No macro, syntax, notation, axiom, sorry.
-/
import Derived.Test.YtcecklededfccaaGreatDoorRows
import Derived.LaidByTextLater
import Derived.SevenTiedAt
import Derived.LaidSub
import Derived.LaidOnce
namespace Go.Proofs.YtcecklededfccaaGreatDoor
open Go
set_option maxRecDepth 100000
theorem seatTie1 : Tryz.prog.laidByTextLater [("math/bits.deBruijn32tab", Rows.laid_math_bits_deBruijn32tab), ("math/bits.deBruijn64tab", Rows.laid_math_bits_deBruijn64tab), ("internal/strconv.uint64pow10", Rows.laid_internal_strconv_uint64pow10), ("gristmill/api.ErrShape", Rows.laid_gristmill_api_ErrShape), ("gristmill/api.ErrMany", Rows.laid_gristmill_api_ErrMany), ("gristmill/api.ErrDeep", Rows.laid_gristmill_api_ErrDeep), ("gristmill/api.ErrForm", Rows.laid_gristmill_api_ErrForm), ("gristmill/api.ErrName", Rows.laid_gristmill_api_ErrName), ("gristmill/api.ErrTwice", Rows.laid_gristmill_api_ErrTwice), ("gristmill/api.ErrNone", Rows.laid_gristmill_api_ErrNone), ("gristmill/api.ErrArity", Rows.laid_gristmill_api_ErrArity), ("gristmill/api.ErrMain", Rows.laid_gristmill_api_ErrMain), ("gristmill/api.ErrBound", Rows.laid_gristmill_api_ErrBound), ("gristmill/api.ErrTag", Rows.laid_gristmill_api_ErrTag)] [.data, .data, .data, .sentinel, .sentinel, .sentinel, .sentinel, .sentinel, .sentinel, .sentinel, .sentinel, .sentinel, .sentinel, .sentinel] true :=
  Program.laidByTextLater_by_one 233 8 65 (by kernel_rfl) (by kernel_rfl) (by kernel_rfl) (by kernel_rfl) (by kernel_rfl) (by kernel_rfl) (fun _ _ => by kernel_rfl)
theorem noOwnUnsafe : Tryz.pinned.checked.prog.headLifts.contains "ownunsafe" = false := by kernel_rfl
theorem tie : Tryz.prog.laidByTextLater [("math/bits.deBruijn32tab", Rows.laid_math_bits_deBruijn32tab), ("math/bits.deBruijn64tab", Rows.laid_math_bits_deBruijn64tab), ("internal/strconv.uint64pow10", Rows.laid_internal_strconv_uint64pow10), ("gristmill/api.ErrShape", Rows.laid_gristmill_api_ErrShape), ("gristmill/api.ErrMany", Rows.laid_gristmill_api_ErrMany), ("gristmill/api.ErrDeep", Rows.laid_gristmill_api_ErrDeep), ("gristmill/api.ErrForm", Rows.laid_gristmill_api_ErrForm), ("gristmill/api.ErrName", Rows.laid_gristmill_api_ErrName), ("gristmill/api.ErrTwice", Rows.laid_gristmill_api_ErrTwice), ("gristmill/api.ErrNone", Rows.laid_gristmill_api_ErrNone), ("gristmill/api.ErrArity", Rows.laid_gristmill_api_ErrArity), ("gristmill/api.ErrMain", Rows.laid_gristmill_api_ErrMain), ("gristmill/api.ErrBound", Rows.laid_gristmill_api_ErrBound), ("gristmill/api.ErrTag", Rows.laid_gristmill_api_ErrTag)] [.data, .data, .data, .sentinel, .sentinel, .sentinel, .sentinel, .sentinel, .sentinel, .sentinel, .sentinel, .sentinel, .sentinel, .sentinel] true :=
  Program.laidByTextLater.sub seatTie1 ["math/bits.deBruijn32tab", "math/bits.deBruijn64tab", "internal/strconv.uint64pow10", "gristmill/api.ErrShape", "gristmill/api.ErrMany", "gristmill/api.ErrDeep", "gristmill/api.ErrForm", "gristmill/api.ErrName", "gristmill/api.ErrTwice", "gristmill/api.ErrNone", "gristmill/api.ErrArity", "gristmill/api.ErrMain", "gristmill/api.ErrBound", "gristmill/api.ErrTag"] (by kernel_rfl) (by kernel_rfl)
theorem genShows_row_tie : Rows.genShowsRow.laidByTextAt .later Tryz.pinned [.data, .data, .data, .sentinel, .sentinel, .sentinel, .sentinel, .sentinel, .sentinel, .sentinel, .sentinel, .sentinel, .sentinel, .sentinel] true :=
  OpenClaim.laidByTextAt_later rfl rfl tie noOwnUnsafe
theorem genShowsUpto_row_tie : Rows.genShowsUptoRow.laidByTextAt .later Tryz.pinned [.data, .data, .data, .sentinel, .sentinel, .sentinel, .sentinel, .sentinel, .sentinel, .sentinel, .sentinel, .sentinel, .sentinel, .sentinel] true :=
  OpenClaim.laidByTextAt_later rfl rfl tie noOwnUnsafe
end Go.Proofs.YtcecklededfccaaGreatDoor
