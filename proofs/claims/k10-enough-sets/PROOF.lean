import PyProof.Rows.All
import Wide.All
import OpenK.AllK
import Wide.FinOn
import PySem.Challenge.RW_corepetals_k10_enough_sets
open PySem PySem.W PySem.W.X PyProof.Rows
set_option Elab.async false
set_option maxRecDepth 100000 in
set_option maxHeartbeats 0 in
theorem PySem.Challenge.cw_corepetals_k10_enough_sets_holds : PySem.Challenge.rw_corepetals_k10_enough_sets.Holds := by
  open_z
