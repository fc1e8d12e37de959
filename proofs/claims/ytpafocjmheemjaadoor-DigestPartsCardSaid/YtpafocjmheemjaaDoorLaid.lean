import Derived.Test.YtpafocjmheemjaaDoorRows
import Derived.Test.YtpafocjmheemjaaDoorTie
import Derived.Test.YtpafocjmheemjaaDoorShaD
import Derived.Lib.LaidTab
import Derived.LaidLaws
import Derived.OpenShut
import Derived.Stop.Joined
set_option linter.unusedSimpArgs false
/- THE LISTED TABLE: what a row's list gives the walks (KeysAt), and a world for the witness. -/
namespace Go.Proofs.YtpafocjmheemjaaDoor
open Go.RowKit
theorem gKeys : Tryd.prog.globalNamed "demurral/digest.keys" = some 0 := by kernel_rfl
theorem gKeysType : (Tryd.prog.globals[0]?).map (·.type) = some 142 := by kernel_rfl
theorem cellsKeys : Tryd.prog.cellsOf 142 = 64 := by kernel_rfl
theorem cellsKey : Tryd.prog.cellsOf 91 = 1 := by kernel_rfl
theorem keys_laid : (Rows.laid_demurral_digest_keys : DataW Unit) = Lib.tabData .u32 (keyL.map fun n => ((n : Nat) : Int)) := by kernel_rfl
theorem keys_of {W : World} (h : laidMetH Tryd.prog [("demurral/digest.keys", Rows.laid_demurral_digest_keys)] W) : KeysAt W := by
  rw [keys_laid] at h
  have t : Lib.TabIs Tryd.prog W "demurral/digest.keys" .u32 (keyL.map fun n => ((n : Nat) : Int)) :=
    Lib.tabIs_of_head (rest := []) gKeys gKeysType Tryd.underlying142 Tryd.underlying91 cellsKey cellsKeys h
  unfold Lib.TabIs World.var? at t
  rw [gKeys] at t
  simp only [Option.bind_some] at t
  split at t
  · rename_i cs ty fr hh
    refine ⟨ty, fr, ?_⟩
    rw [hh, Option.some.inj t]
    unfold keysA
    rw [List.map_map]
    rfl
  · cases t
/-- a world for the witness: the settled one, the table holding what its initialiser lays -/
noncomputable def laidWorld (os : Os) : World :=
  { World.holding Tryd.prog os ⟨#[], #[], []⟩ with heap := (World.holding Tryd.prog os ⟨#[], #[], []⟩).heap.modify 0 fun
      | .cells _ t frozen => .cells keysA t frozen
      | o => o }
theorem laid_world (os : Os) (args : Array Value) : laidMet Tryd.prog [("demurral/digest.keys", Rows.laid_demurral_digest_keys)] ((laidWorld os).forCall (fun _ _ => 0) ⟨#[], args, []⟩).memory :=
  laidMet_of_run' 8 (by kernel_rfl) (by kernel_rfl)
/-- no parameter wants a stand-in, when the kinds say so one by one -/
theorem looks_off : false = Tryd.pinned.checked.prog.looks [] := by kernel_rfl
end Go.Proofs.YtpafocjmheemjaaDoor
