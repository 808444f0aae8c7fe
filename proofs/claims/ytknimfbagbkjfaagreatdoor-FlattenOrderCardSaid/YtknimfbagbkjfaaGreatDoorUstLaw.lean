/- Layer 7: the laws' own texts that do not reach Decode. -/
import Derived.Test.YtknimfbagbkjfaaGreatDoorUstQ
set_option linter.unusedSimpArgs false
set_option linter.unusedVariables false
namespace Go.Xp
open Go.Proofs

theorem ubody_len {t : Int} {name pre link : List UInt8} {mode size : Int} (h : ucheck t name pre link mode size = 0) : (ubody t name pre link mode size).length = 512 := by
  obtain ⟨-, c1, c2, c3, hm, hs⟩ := ucheck_ok h
  have k1 : (cfmt name 100).length = 100 := cf_len (w := 100) c1
  have k2 : (cfmt link 100).length = 100 := cf_len (w := 100) c2
  have k3 : (cfmt pre 155).length = 155 := cf_len (w := 155) c3
  have l1 : (octf mode 8).length = 8 := of_len (w := 8) (oerr_mode hm) (by decide)
  have l2 : (octf size 12).length = 12 := of_len (w := 12) (oerr_size hs) (by decide)
  have l3 : (octf 0 8).length = 8 := of_len (n := 0) (w := 8) (by decide) (by decide)
  have l4 : (octf 0 12).length = 12 := of_len (n := 0) (w := 12) (by decide) (by decide)
  have z1 : (cfmt [] 32).length = 32 := cf_len (s := []) (w := 32) (by decide)
  have z2 : (cfmt [] 12).length = 12 := cf_len (s := []) (w := 12) (by decide)
  unfold ubody
  simp only [List.length_append, k1, k2, k3, l1, l2, l3, l4, z1, z2, List.length_cons, List.length_nil]
theorem uenc_len {t : Int} {name pre link : List UInt8} {mode size : Int} (h : ucheck t name pre link mode size = 0) : (uenc t name pre link mode size).length = 512 := by
  unfold uenc; rw [if_pos h]; exact sseal_len (ubody_len h)
end Go.Xp
