/-
  DERIVED. GIVEN WITH THE SEED: THE PROGRAM's TIES (one call each: nine closed facts by the kernel) AND EACH ROW's TIE, after the 31st guide's Derived/Test/Toyas{Tie, Card}.lean. No idea stands in it: it is a product of the set-up. Laid BY PROGRAM, IN A SANDBOX (cutbox-door.mjs). By AI agents, Wed Nov 11 2026. No macro, syntax, notation, axiom, sorry.
-/
import Derived.Test.YtmfnldkiaodkpaaDoorRows
import Derived.LaidByTextLater
import Derived.SevenTiedAt
import Derived.LaidSub
import Derived.LaidOnce
namespace Go.Proofs.YtmfnldkiaodkpaaDoor
open Go
set_option maxRecDepth 100000
theorem seatTie1 : Tryd.prog.laidByTextLater [("porthole/portholeref4.rows", Rows.laid_porthole_portholeref4_rows), ("porthole/portholeref4.iv", Rows.laid_porthole_portholeref4_iv), ("porthole/portholeref4.sigma", Rows.laid_porthole_portholeref4_sigma), ("porthole/portholeref15.sizes", Rows.laid_porthole_portholeref15_sizes)] [.data, .data, .data, .data] true :=
  Program.laidByTextLater_by_one 47 8 161 (by kernel_rfl) (by kernel_rfl) (by kernel_rfl) (by kernel_rfl) (by kernel_rfl) (by kernel_rfl) (fun _ _ => by kernel_rfl)
theorem noOwnUnsafe : Tryd.pinned.checked.prog.headLifts.contains "ownunsafe" = false := by kernel_rfl
theorem tie : Tryd.prog.laidByTextLater [("porthole/portholeref4.rows", Rows.laid_porthole_portholeref4_rows), ("porthole/portholeref4.iv", Rows.laid_porthole_portholeref4_iv), ("porthole/portholeref4.sigma", Rows.laid_porthole_portholeref4_sigma)] [.data, .data, .data] true :=
  Program.laidByTextLater.sub seatTie1 ["porthole/portholeref4.rows", "porthole/portholeref4.iv", "porthole/portholeref4.sigma"] (by kernel_rfl) (by kernel_rfl)
theorem symmKnown_row_tie : Rows.symmKnownRow.laidByTextAt .later Tryd.pinned [.data, .data, .data] true :=
  OpenClaim.laidByTextAt_later rfl rfl tie noOwnUnsafe
theorem symmPlays_row_tie : Rows.symmPlaysRow.laidByTextAt .later Tryd.pinned [.data, .data, .data] true :=
  OpenClaim.laidByTextAt_later rfl rfl tie noOwnUnsafe
theorem tie2 : Tryd.prog.laidByTextLater [("porthole/portholeref4.rows", Rows.laid_porthole_portholeref4_rows)] [.data] true :=
  Program.laidByTextLater.sub seatTie1 ["porthole/portholeref4.rows"] (by kernel_rfl) (by kernel_rfl)
theorem aeadSeals_row_tie : Rows.aeadSealsRow.laidByTextAt .later Tryd.pinned [.data] true :=
  OpenClaim.laidByTextAt_later rfl rfl tie2 noOwnUnsafe
theorem aeadOpens_row_tie : Rows.aeadOpensRow.laidByTextAt .later Tryd.pinned [.data] true :=
  OpenClaim.laidByTextAt_later rfl rfl tie2 noOwnUnsafe
theorem cipherPlays_row_tie : Rows.cipherPlaysRow.laidByTextAt .later Tryd.pinned [.data] true :=
  OpenClaim.laidByTextAt_later rfl rfl tie2 noOwnUnsafe
theorem tie3 : Tryd.prog.laidByTextLater [("porthole/portholeref4.rows", Rows.laid_porthole_portholeref4_rows), ("porthole/portholeref15.sizes", Rows.laid_porthole_portholeref15_sizes)] [.data, .data] true :=
  Program.laidByTextLater.sub seatTie1 ["porthole/portholeref4.rows", "porthole/portholeref15.sizes"] (by kernel_rfl) (by kernel_rfl)
theorem recordHalves_row_tie : Rows.recordHalvesRow.laidByTextAt .later Tryd.pinned [.data, .data] true :=
  OpenClaim.laidByTextAt_later rfl rfl tie3 noOwnUnsafe
theorem tie4 : Tryd.prog.laidByTextLater [("porthole/portholeref15.sizes", Rows.laid_porthole_portholeref15_sizes)] [.data] true :=
  Program.laidByTextLater.sub seatTie1 ["porthole/portholeref15.sizes"] (by kernel_rfl) (by kernel_rfl)
theorem recordStream_row_tie : Rows.recordStreamRow.laidByTextAt .later Tryd.pinned [.data] true :=
  OpenClaim.laidByTextAt_later rfl rfl tie4 noOwnUnsafe
theorem symmKnownUpto_row_tie : Rows.symmKnownUptoRow.laidByTextAt .later Tryd.pinned [.data, .data, .data] true :=
  OpenClaim.laidByTextAt_later rfl rfl tie noOwnUnsafe
theorem aeadSealsUpto_row_tie : Rows.aeadSealsUptoRow.laidByTextAt .later Tryd.pinned [.data] true :=
  OpenClaim.laidByTextAt_later rfl rfl tie2 noOwnUnsafe
theorem aeadOpensUpto_row_tie : Rows.aeadOpensUptoRow.laidByTextAt .later Tryd.pinned [.data] true :=
  OpenClaim.laidByTextAt_later rfl rfl tie2 noOwnUnsafe
theorem cipherPlaysUpto_row_tie : Rows.cipherPlaysUptoRow.laidByTextAt .later Tryd.pinned [.data] true :=
  OpenClaim.laidByTextAt_later rfl rfl tie2 noOwnUnsafe
theorem recordHalvesUpto_row_tie : Rows.recordHalvesUptoRow.laidByTextAt .later Tryd.pinned [.data, .data] true :=
  OpenClaim.laidByTextAt_later rfl rfl tie3 noOwnUnsafe
theorem recordStreamUpto_row_tie : Rows.recordStreamUptoRow.laidByTextAt .later Tryd.pinned [.data] true :=
  OpenClaim.laidByTextAt_later rfl rfl tie4 noOwnUnsafe
theorem symmPlaysUpto_row_tie : Rows.symmPlaysUptoRow.laidByTextAt .later Tryd.pinned [.data, .data, .data] true :=
  OpenClaim.laidByTextAt_later rfl rfl tie noOwnUnsafe
end Go.Proofs.YtmfnldkiaodkpaaDoor
