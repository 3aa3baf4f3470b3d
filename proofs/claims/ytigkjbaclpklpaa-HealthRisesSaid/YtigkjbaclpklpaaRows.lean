/-
  No cell of these rows narrows 'for every input' (looked for: loops, veiled, ifaces, maps, wideKeys, modest, calm, conditions, laid).
  DERIVED. THE GIVEN ROWS OF THIS SEAT. 5 by the template 'for every input the law returns true; each argument reads behind the call as it read before'; 0 by the template 'total and deterministic' (their statements: YtigkjbaclpklpaaTotals.lean).
  GIVEN WITH THE SEED: the statements are not yours to turn. If you find one false, say at which input.
  Laid BY PROGRAM, IN A SANDBOX (cutbox-rows.mjs): the forced cells as the released guide's own fill.sh prints them over the translation 505e7039487ba4b8… (all of the seat's roots in one cut). By AI agents, Wed Nov 11 2026. No macro, syntax, notation, axiom, sorry.
-/
import Derived.Test.YtigkjbaclpklpaaChecked
import GoSem.Claim
import GoSem.ClaimJoined
import GoSem.ClaimMapViews
import Derived.JoinedTies
import Derived.KernelRfl
namespace Go.Proofs.Ytigkjbaclpklpaa
/- THE CELL 'sum', in the pinned program and in every row, IS THE sha256 OF THE DUMP (.gsa) THAT YtigkjbaclpklpaaProg.lean LOADS. Nothing in Lean hashes anything: it is a label: what it is worth is what the hold of that sum in a sandbox is worth. -/
noncomputable def Try.pinned : Pinned := { name := "ytigkjbaclpklpaa", sum := "505e7039487ba4b854c97c611de1b1b9f61582c24ee5d82256a80f8690de6613", checked := Try.checked }
namespace Rows
def none {H : Type} : Left H := { results := [], args := [] }

/-- 'clepsydralaw21.HealthSanes': WHATEVER THE INPUT: true; the input reads as it did. -/
def healthSanesSpec : ChangeSpec := { name := "healthSanes", fn := fun _ => fun
  | [d1, d2] => { results := [.lit (.bool true)], args := [d1, d2] }
  | _ => none }
def healthSanesRow : OpenClaim := { program := "ytigkjbaclpklpaa", sum := "505e7039487ba4b854c97c611de1b1b9f61582c24ee5d82256a80f8690de6613", func := "clepsydra/clepsydralaw21.HealthSanes", spec := "healthSanes", unfollowed := true, recurses := true, apart := false }
def HealthSanesSaid : Prop := healthSanesRow.holds Try.pinned (OpenSpec.ofChange healthSanesSpec)

/-- ITS FALSE NEIGHBOUR: 'it returns false'. Refute it at one input. -/
def healthSanesWrong : ChangeSpec := { name := "healthSanes", fn := fun _ => fun
  | [d1, d2] => { results := [.lit (.bool false)], args := [d1, d2] }
  | _ => none }
def HealthSanesWrongFalsely : Prop := healthSanesRow.holds Try.pinned (OpenSpec.ofChange healthSanesWrong)

/-- 'clepsydralaw21.HealthKeeps': WHATEVER THE INPUT: true; the input reads as it did. -/
def healthKeepsSpec : ChangeSpec := { name := "healthKeeps", fn := fun _ => fun
  | [d1, d2, d3] => { results := [.lit (.bool true)], args := [d1, d2, d3] }
  | _ => none }
def healthKeepsRow : OpenClaim := { program := "ytigkjbaclpklpaa", sum := "505e7039487ba4b854c97c611de1b1b9f61582c24ee5d82256a80f8690de6613", func := "clepsydra/clepsydralaw21.HealthKeeps", spec := "healthKeeps", unfollowed := true, recurses := true, apart := false }
def HealthKeepsSaid : Prop := healthKeepsRow.holds Try.pinned (OpenSpec.ofChange healthKeepsSpec)

/-- ITS FALSE NEIGHBOUR: 'it returns false'. Refute it at one input. -/
def healthKeepsWrong : ChangeSpec := { name := "healthKeeps", fn := fun _ => fun
  | [d1, d2, d3] => { results := [.lit (.bool false)], args := [d1, d2, d3] }
  | _ => none }
def HealthKeepsWrongFalsely : Prop := healthKeepsRow.holds Try.pinned (OpenSpec.ofChange healthKeepsWrong)

/-- 'clepsydralaw21.HealthStays': WHATEVER THE INPUT: true; the input reads as it did. -/
def healthStaysSpec : ChangeSpec := { name := "healthStays", fn := fun _ => fun
  | [d1, d2, d3, d4, d5] => { results := [.lit (.bool true)], args := [d1, d2, d3, d4, d5] }
  | _ => none }
def healthStaysRow : OpenClaim := { program := "ytigkjbaclpklpaa", sum := "505e7039487ba4b854c97c611de1b1b9f61582c24ee5d82256a80f8690de6613", func := "clepsydra/clepsydralaw21.HealthStays", spec := "healthStays", unfollowed := true, recurses := true, apart := false }
def HealthStaysSaid : Prop := healthStaysRow.holds Try.pinned (OpenSpec.ofChange healthStaysSpec)

/-- ITS FALSE NEIGHBOUR: 'it returns false'. Refute it at one input. -/
def healthStaysWrong : ChangeSpec := { name := "healthStays", fn := fun _ => fun
  | [d1, d2, d3, d4, d5] => { results := [.lit (.bool false)], args := [d1, d2, d3, d4, d5] }
  | _ => none }
def HealthStaysWrongFalsely : Prop := healthStaysRow.holds Try.pinned (OpenSpec.ofChange healthStaysWrong)

/-- 'clepsydralaw21.HealthBoots': WHATEVER THE INPUT: true; the input reads as it did. -/
def healthBootsSpec : ChangeSpec := { name := "healthBoots", fn := fun _ => fun
  | [d1, d2] => { results := [.lit (.bool true)], args := [d1, d2] }
  | _ => none }
def healthBootsRow : OpenClaim := { program := "ytigkjbaclpklpaa", sum := "505e7039487ba4b854c97c611de1b1b9f61582c24ee5d82256a80f8690de6613", func := "clepsydra/clepsydralaw21.HealthBoots", spec := "healthBoots", unfollowed := true, recurses := true, apart := false }
def HealthBootsSaid : Prop := healthBootsRow.holds Try.pinned (OpenSpec.ofChange healthBootsSpec)

/-- ITS FALSE NEIGHBOUR: 'it returns false'. Refute it at one input. -/
def healthBootsWrong : ChangeSpec := { name := "healthBoots", fn := fun _ => fun
  | [d1, d2] => { results := [.lit (.bool false)], args := [d1, d2] }
  | _ => none }
def HealthBootsWrongFalsely : Prop := healthBootsRow.holds Try.pinned (OpenSpec.ofChange healthBootsWrong)

/-- 'clepsydralaw21.HealthRises': WHATEVER THE INPUT: true; the input reads as it did. -/
def healthRisesSpec : ChangeSpec := { name := "healthRises", fn := fun _ => fun
  | [d1, d2, d3, d4, d5] => { results := [.lit (.bool true)], args := [d1, d2, d3, d4, d5] }
  | _ => none }
def healthRisesRow : OpenClaim := { program := "ytigkjbaclpklpaa", sum := "505e7039487ba4b854c97c611de1b1b9f61582c24ee5d82256a80f8690de6613", func := "clepsydra/clepsydralaw21.HealthRises", spec := "healthRises", unfollowed := true, recurses := true, apart := false }
def HealthRisesSaid : Prop := healthRisesRow.holds Try.pinned (OpenSpec.ofChange healthRisesSpec)

/-- ITS FALSE NEIGHBOUR: 'it returns false'. Refute it at one input. -/
def healthRisesWrong : ChangeSpec := { name := "healthRises", fn := fun _ => fun
  | [d1, d2, d3, d4, d5] => { results := [.lit (.bool false)], args := [d1, d2, d3, d4, d5] }
  | _ => none }
def HealthRisesWrongFalsely : Prop := healthRisesRow.holds Try.pinned (OpenSpec.ofChange healthRisesWrong)

/- THE SECOND FORM. 'bulk': how many values and letters a reading holds, each counted each time it is reached (what is shared counts as often as it is met; a slice's spare places count too). A statement '..UptoSaid' is the law's where the arguments, and the package variables that the reading takes, are together of bulk at most 1048576: NARROWER than '..Said'. Prove '..Said' where nothing that the law and all that it calls make is longer than what came in: it says more and counts as full. Else prove '..UptoSaid'. A law counts once. -/
mutual
def uptoBulk {H : Type} : DataW H → Nat
  | .lit (.string bytes) => bytes.length + 1
  | .lit _ => 1
  | .nil => 1
  | .ptr d => uptoBulk d + 1
  | .slice elems spare => uptoBulkAll elems + uptoBulkAll spare + 1
  | .agg parts => uptoBulkAll parts + 1
  | .iface _ d => uptoBulk d + 1
  | .map entries => uptoBulkEntries entries + 1
  | .held _ => 1
def uptoBulkAll {H : Type} : List (DataW H) → Nat
  | [] => 0
  | d :: r => uptoBulk d + uptoBulkAll r
def uptoBulkEntries {H : Type} : List (Lit × DataW H) → Nat
  | [] => 0
  | x :: r => uptoBulkEntry x + uptoBulkEntries r
def uptoBulkEntry {H : Type} : Lit × DataW H → Nat
  | (.string bytes, d) => bytes.length + uptoBulk d + 1
  | (_, d) => uptoBulk d + 1
 end
def uptoSmall : (H : Type) → List (DataW H) → Bool := fun _ ds => decide (uptoBulkAll ds ≤ 1048576)
def OpenSpec.upto (s : _root_.Go.ChangeSpec) : _root_.Go.OpenSpec := { _root_.Go.OpenSpec.ofChange s with cond := some uptoSmall }

/-- 'clepsydralaw21.HealthSanes', WHERE WHAT IT READS IS OF BULK AT MOST 1048576: true; the input reads as it did. -/
def healthSanesUptoRow : OpenClaim := { program := "ytigkjbaclpklpaa", sum := "505e7039487ba4b854c97c611de1b1b9f61582c24ee5d82256a80f8690de6613", func := "clepsydra/clepsydralaw21.HealthSanes", spec := "healthSanes", unfollowed := true, recurses := true, apart := false, narrowed := true }
def HealthSanesUptoSaid : Prop := healthSanesUptoRow.holds Try.pinned (OpenSpec.upto healthSanesSpec)

/-- 'clepsydralaw21.HealthKeeps', WHERE WHAT IT READS IS OF BULK AT MOST 1048576: true; the input reads as it did. -/
def healthKeepsUptoRow : OpenClaim := { program := "ytigkjbaclpklpaa", sum := "505e7039487ba4b854c97c611de1b1b9f61582c24ee5d82256a80f8690de6613", func := "clepsydra/clepsydralaw21.HealthKeeps", spec := "healthKeeps", unfollowed := true, recurses := true, apart := false, narrowed := true }
def HealthKeepsUptoSaid : Prop := healthKeepsUptoRow.holds Try.pinned (OpenSpec.upto healthKeepsSpec)

/-- 'clepsydralaw21.HealthStays', WHERE WHAT IT READS IS OF BULK AT MOST 1048576: true; the input reads as it did. -/
def healthStaysUptoRow : OpenClaim := { program := "ytigkjbaclpklpaa", sum := "505e7039487ba4b854c97c611de1b1b9f61582c24ee5d82256a80f8690de6613", func := "clepsydra/clepsydralaw21.HealthStays", spec := "healthStays", unfollowed := true, recurses := true, apart := false, narrowed := true }
def HealthStaysUptoSaid : Prop := healthStaysUptoRow.holds Try.pinned (OpenSpec.upto healthStaysSpec)

/-- 'clepsydralaw21.HealthBoots', WHERE WHAT IT READS IS OF BULK AT MOST 1048576: true; the input reads as it did. -/
def healthBootsUptoRow : OpenClaim := { program := "ytigkjbaclpklpaa", sum := "505e7039487ba4b854c97c611de1b1b9f61582c24ee5d82256a80f8690de6613", func := "clepsydra/clepsydralaw21.HealthBoots", spec := "healthBoots", unfollowed := true, recurses := true, apart := false, narrowed := true }
def HealthBootsUptoSaid : Prop := healthBootsUptoRow.holds Try.pinned (OpenSpec.upto healthBootsSpec)

/-- 'clepsydralaw21.HealthRises', WHERE WHAT IT READS IS OF BULK AT MOST 1048576: true; the input reads as it did. -/
def healthRisesUptoRow : OpenClaim := { program := "ytigkjbaclpklpaa", sum := "505e7039487ba4b854c97c611de1b1b9f61582c24ee5d82256a80f8690de6613", func := "clepsydra/clepsydralaw21.HealthRises", spec := "healthRises", unfollowed := true, recurses := true, apart := false, narrowed := true }
def HealthRisesUptoSaid : Prop := healthRisesUptoRow.holds Try.pinned (OpenSpec.upto healthRisesSpec)

end Rows
end Go.Proofs.Ytigkjbaclpklpaa
