/- BackRuns is carried out by the executor, by the kernel. No condition. -/
import Derived.Test.YtcmaledchnhccaaGreatDoorProg
import Derived.Test.YtcmaledchnhccaaGreatDoorF
import Derived.KernelRfl
namespace Go.Proofs.YtcmaledchnhccaaGreatDoor
open Go Go.RowKit

theorem bare_cmp : Bare Tryz.prog 193 Extern.BytealgCompare.compare := ⟨_, Tryz.func193, by kernel_rfl, by kernel_rfl, by kernel_rfl, by kernel_rfl⟩
theorem bare_noEscape : Bare Tryz.prog 250 Extern.AbiNoEscape.same := ⟨_, Tryz.func250, by kernel_rfl, by kernel_rfl, by kernel_rfl, by kernel_rfl⟩
theorem bare_makeNoZero : Bare Tryz.prog 251 (Extern.BytealgMakeNoZero.makeNoZero #[3] #[143]) := ⟨_, Tryz.func251, by kernel_rfl, by kernel_rfl, by kernel_rfl, by kernel_rfl⟩
theorem bare_indexByte : Bare Tryz.prog 255 Extern.BytealgIndexByte.indexByte := ⟨_, Tryz.func255, by kernel_rfl, by kernel_rfl, by kernel_rfl, by kernel_rfl⟩

def extX : Nat → Option XK := fun f => if f = 193 then some .cmpString else if f = 250 then some .noEscape else if f = 251 then some (.makeNoZero 5) else if f = 255 then some .indexByte else Option.none
theorem extX_ok : ∀ f k, extX f = some k → ExtOK Tryz.prog f k := by
  intro f k h
  unfold extX at h
  split at h
  · rename_i e; subst e; cases h; exact ext_cmpString bare_cmp
  · split at h
    · rename_i e; subst e; cases h; exact ext_noEscape bare_noEscape
    · split at h
      · rename_i e; subst e; cases h; exact ext_makeNoZero bare_makeNoZero (by kernel_rfl) (by kernel_rfl)
      · split at h
        · rename_i e; subst e; cases h; exact ext_indexByte bare_indexByte
        · cases h
theorem names : (Tryz.prog.funcs.toList.all fun fn => !(fn.name == "runtime.NumGoroutine")) = true := by kernel_rfl
theorem mixed : Tryz.prog.follows .mixedOrders = true := by kernel_rfl
def wordTab : List (List XV × XV) := [([.str [110,97,109,101]], .bool true), ([.str [104,105,103,104]], .bool true)]
theorem wordTab_run : memoOK (Yof Tryz.prog) (Fof Tryz.prog extX) (kexec (Yof Tryz.prog) (Fof Tryz.prog extX) 10000) 95 wordTab = true := by kernel_rfl
def extW : Nat → Option XK := fun f => if f = 95 then some (.memo wordTab) else extX f
theorem extW_ok : ∀ f k, extW f = some k → ExtOK Tryz.prog f k := by
  intro f k h
  unfold extW at h
  split at h
  · rename_i e
    subst e; cases h
    have hF : FOK Tryz.prog (Fof Tryz.prog extX) := Fof_ok (names_ok names) extX_ok
    exact ext_memo (run := kexec (Yof Tryz.prog) (Fof Tryz.prog extX) 10000) Yof_ok hF (fun w0 => by rw [kexec_eq]; exact exec_ok Yof_ok hF (draw_ok Yof_ok mixed) _) (by kernel_rfl) wordTab_run
  · exact extX_ok f k h
theorem backRuns_run : isR true (xCall (Yof Tryz.prog) (Fof Tryz.prog extW) (kexec (Yof Tryz.prog) (Fof Tryz.prog extW) 100000) 3 [] ⟨0, .nil⟩) = true := by kernel_rfl
end Go.Proofs.YtcmaledchnhccaaGreatDoor
