/- A part of the proofs of this seat: G12M3 G12M4 G12M Pln S12a S12b S12c S12d. -/
import Derived.Test.YtacapnnkndaonaaPda5bca971a
import Derived.IntWalk
import Derived.Sort.AssemblyPlain
set_option linter.unusedVariables false
set_option linter.unusedSimpArgs false
set_option linter.unusedSectionVars false
section
/- The models of functions: what they compute, as plain functions of leaves; each twice: locked, and to compute with (C). Printed by a program. -/
namespace Go.Pev
set_option maxRecDepth 100000
noncomputable section
attribute [local irreducible] fitsR fitsIR idxR sublR iltR ileR ieqR quoR remR shlR shrR cloneR iterO many IntKind.wrap dlen dset dget dapp dtake dcut drep dnat dclear imin imax lookupM storeM
-- slices.pdqsortOrdered[uint32]
abbrev pdqW_i : Items := [(.tmp 0, .own 34 (.int .u32)), (.tmp 1, .dat (.int .i64)), (.tmp 2, .dat (.int .i64)), (.tmp 3, .dat (.int .i64))]
abbrev pdqW_o : Items := [(.obj 0, .own 34 (.int .u32))]
abbrev pdqW_r : List RS := []
abbrev pdqW_i0 : Items := [(.obj 0, .own 34 (.int .u32)), (.tmp 0, .own' 0), (.tmp 1, .dat (.int .i64)), (.tmp 2, .dat (.int .i64)), (.tmp 3, .dat (.int .i64)), (.tmp 8, .dat .bool), (.tmp 9, .dat .bool)]
abbrev pdqW_o0 : Outs := [(.ret, [(.obj 0, .own 34 (.int .u32))])]
def pdqW_s0 (self : (List Int × Int × Int × Int × Unit) → Option ((List Int × Unit))) : (List Int × Int × Int × Int × Bool × Bool × Unit) → Option ((List Int × Int × Int × Int × Bool × Bool × Unit) ⊕ (List Int × Unit) ⊕ Unit) := fun (a0, a1, a2, a3, a4, a5, _) =>
  match (ile (IntKind.wrap .i64 (a2 - a1)) (12 : Int)) with
  | true => match insW (a0, a1, a2, ()) with
    | none => none
    | some (y0, _) => some (.inr (.inl (y0, ())))
  | false => match (ieq a3 (0 : Int)) with
    | true => match heapW (a0, a1, a2, ()) with
      | none => none
      | some (y1, _) => some (.inr (.inl (y1, ())))
    | false => match (!a4) with
      | true => match breakW (a0, a1, a2, ()) with
        | none => none
        | some (y2, _) => match pivotW (y2, a1, a2, ()) with
          | none => none
          | some (y3, y4, y5, _) => match (ieq y5 (2 : Int)) with
            | true => match revW (y3, a1, a2, ()) with
              | none => none
              | some (y6, _) => match a4 with
                | true => match a5 with
                  | true => match (ieq (1 : Int) (1 : Int)) with
                    | true => match partInsW (y6, a1, a2, ()) with
                      | none => none
                      | some (y7, y8, _) => match y8 with
                        | true => some (.inr (.inl (y7, ())))
                        | false => match (ilt (0 : Int) a1) with
                          | true => match idx y7 (IntKind.wrap .i64 (a1 - (1 : Int))) with
                            | none => none
                            | some x9 => match idx y7 (IntKind.wrap .i64 ((IntKind.wrap .i64 (a2 - (1 : Int))) - (IntKind.wrap .i64 (y4 - a1)))) with
                              | none => none
                              | some x10 => match lessW ((dget y7 (dnat (IntKind.wrap .i64 (a1 - (1 : Int)))) (0 : Int)), (dget y7 (dnat (IntKind.wrap .i64 ((IntKind.wrap .i64 (a2 - (1 : Int))) - (IntKind.wrap .i64 (y4 - a1))))) (0 : Int)), ()) with
                                | none => none
                                | some (y11, _) => match (!y11) with
                                  | true => match partEqW (y7, a1, a2, (IntKind.wrap .i64 ((IntKind.wrap .i64 (a2 - (1 : Int))) - (IntKind.wrap .i64 (y4 - a1)))), ()) with
                                    | none => none
                                    | some (y12, y13, _) => some (.inl (y12, y13, a2, (IntKind.wrap .i64 (a3 - (1 : Int))), a4, a5, ()))
                                  | false => match partW (y7, a1, a2, (IntKind.wrap .i64 ((IntKind.wrap .i64 (a2 - (1 : Int))) - (IntKind.wrap .i64 (y4 - a1)))), ()) with
                                    | none => none
                                    | some (y14, y15, y16, _) => match quo? .i64 (IntKind.wrap .i64 (a2 - a1)) (8 : Int) with
                                      | none => none
                                      | some x17 => match (ilt (IntKind.wrap .i64 (y15 - a1)) (IntKind.wrap .i64 (a2 - y15))) with
                                        | true => match self (y14, a1, y15, (IntKind.wrap .i64 (a3 - (1 : Int))), ()) with
                                          | none => none
                                          | some (y18, _) => some (.inl (y18, (IntKind.wrap .i64 (y15 + (1 : Int))), a2, (IntKind.wrap .i64 (a3 - (1 : Int))), (ile x17 (IntKind.wrap .i64 (y15 - a1))), y16, ()))
                                        | false => match self (y14, (IntKind.wrap .i64 (y15 + (1 : Int))), a2, (IntKind.wrap .i64 (a3 - (1 : Int))), ()) with
                                          | none => none
                                          | some (y19, _) => some (.inl (y19, a1, y15, (IntKind.wrap .i64 (a3 - (1 : Int))), (ile x17 (IntKind.wrap .i64 (a2 - y15))), y16, ()))
                          | false => match partW (y7, a1, a2, (IntKind.wrap .i64 ((IntKind.wrap .i64 (a2 - (1 : Int))) - (IntKind.wrap .i64 (y4 - a1)))), ()) with
                            | none => none
                            | some (y20, y21, y22, _) => match quo? .i64 (IntKind.wrap .i64 (a2 - a1)) (8 : Int) with
                              | none => none
                              | some x23 => match (ilt (IntKind.wrap .i64 (y21 - a1)) (IntKind.wrap .i64 (a2 - y21))) with
                                | true => match self (y20, a1, y21, (IntKind.wrap .i64 (a3 - (1 : Int))), ()) with
                                  | none => none
                                  | some (y24, _) => some (.inl (y24, (IntKind.wrap .i64 (y21 + (1 : Int))), a2, (IntKind.wrap .i64 (a3 - (1 : Int))), (ile x23 (IntKind.wrap .i64 (y21 - a1))), y22, ()))
                                | false => match self (y20, (IntKind.wrap .i64 (y21 + (1 : Int))), a2, (IntKind.wrap .i64 (a3 - (1 : Int))), ()) with
                                  | none => none
                                  | some (y25, _) => some (.inl (y25, a1, y21, (IntKind.wrap .i64 (a3 - (1 : Int))), (ile x23 (IntKind.wrap .i64 (a2 - y21))), y22, ()))
                    | false => match (ilt (0 : Int) a1) with
                      | true => match idx y6 (IntKind.wrap .i64 (a1 - (1 : Int))) with
                        | none => none
                        | some x26 => match idx y6 (IntKind.wrap .i64 ((IntKind.wrap .i64 (a2 - (1 : Int))) - (IntKind.wrap .i64 (y4 - a1)))) with
                          | none => none
                          | some x27 => match lessW ((dget y6 (dnat (IntKind.wrap .i64 (a1 - (1 : Int)))) (0 : Int)), (dget y6 (dnat (IntKind.wrap .i64 ((IntKind.wrap .i64 (a2 - (1 : Int))) - (IntKind.wrap .i64 (y4 - a1))))) (0 : Int)), ()) with
                            | none => none
                            | some (y28, _) => match (!y28) with
                              | true => match partEqW (y6, a1, a2, (IntKind.wrap .i64 ((IntKind.wrap .i64 (a2 - (1 : Int))) - (IntKind.wrap .i64 (y4 - a1)))), ()) with
                                | none => none
                                | some (y29, y30, _) => some (.inl (y29, y30, a2, (IntKind.wrap .i64 (a3 - (1 : Int))), a4, a5, ()))
                              | false => match partW (y6, a1, a2, (IntKind.wrap .i64 ((IntKind.wrap .i64 (a2 - (1 : Int))) - (IntKind.wrap .i64 (y4 - a1)))), ()) with
                                | none => none
                                | some (y31, y32, y33, _) => match quo? .i64 (IntKind.wrap .i64 (a2 - a1)) (8 : Int) with
                                  | none => none
                                  | some x34 => match (ilt (IntKind.wrap .i64 (y32 - a1)) (IntKind.wrap .i64 (a2 - y32))) with
                                    | true => match self (y31, a1, y32, (IntKind.wrap .i64 (a3 - (1 : Int))), ()) with
                                      | none => none
                                      | some (y35, _) => some (.inl (y35, (IntKind.wrap .i64 (y32 + (1 : Int))), a2, (IntKind.wrap .i64 (a3 - (1 : Int))), (ile x34 (IntKind.wrap .i64 (y32 - a1))), y33, ()))
                                    | false => match self (y31, (IntKind.wrap .i64 (y32 + (1 : Int))), a2, (IntKind.wrap .i64 (a3 - (1 : Int))), ()) with
                                      | none => none
                                      | some (y36, _) => some (.inl (y36, a1, y32, (IntKind.wrap .i64 (a3 - (1 : Int))), (ile x34 (IntKind.wrap .i64 (a2 - y32))), y33, ()))
                      | false => match partW (y6, a1, a2, (IntKind.wrap .i64 ((IntKind.wrap .i64 (a2 - (1 : Int))) - (IntKind.wrap .i64 (y4 - a1)))), ()) with
                        | none => none
                        | some (y37, y38, y39, _) => match quo? .i64 (IntKind.wrap .i64 (a2 - a1)) (8 : Int) with
                          | none => none
                          | some x40 => match (ilt (IntKind.wrap .i64 (y38 - a1)) (IntKind.wrap .i64 (a2 - y38))) with
                            | true => match self (y37, a1, y38, (IntKind.wrap .i64 (a3 - (1 : Int))), ()) with
                              | none => none
                              | some (y41, _) => some (.inl (y41, (IntKind.wrap .i64 (y38 + (1 : Int))), a2, (IntKind.wrap .i64 (a3 - (1 : Int))), (ile x40 (IntKind.wrap .i64 (y38 - a1))), y39, ()))
                            | false => match self (y37, (IntKind.wrap .i64 (y38 + (1 : Int))), a2, (IntKind.wrap .i64 (a3 - (1 : Int))), ()) with
                              | none => none
                              | some (y42, _) => some (.inl (y42, a1, y38, (IntKind.wrap .i64 (a3 - (1 : Int))), (ile x40 (IntKind.wrap .i64 (a2 - y38))), y39, ()))
                  | false => match (ilt (0 : Int) a1) with
                    | true => match idx y6 (IntKind.wrap .i64 (a1 - (1 : Int))) with
                      | none => none
                      | some x43 => match idx y6 (IntKind.wrap .i64 ((IntKind.wrap .i64 (a2 - (1 : Int))) - (IntKind.wrap .i64 (y4 - a1)))) with
                        | none => none
                        | some x44 => match lessW ((dget y6 (dnat (IntKind.wrap .i64 (a1 - (1 : Int)))) (0 : Int)), (dget y6 (dnat (IntKind.wrap .i64 ((IntKind.wrap .i64 (a2 - (1 : Int))) - (IntKind.wrap .i64 (y4 - a1))))) (0 : Int)), ()) with
                          | none => none
                          | some (y45, _) => match (!y45) with
                            | true => match partEqW (y6, a1, a2, (IntKind.wrap .i64 ((IntKind.wrap .i64 (a2 - (1 : Int))) - (IntKind.wrap .i64 (y4 - a1)))), ()) with
                              | none => none
                              | some (y46, y47, _) => some (.inl (y46, y47, a2, (IntKind.wrap .i64 (a3 - (1 : Int))), a4, a5, ()))
                            | false => match partW (y6, a1, a2, (IntKind.wrap .i64 ((IntKind.wrap .i64 (a2 - (1 : Int))) - (IntKind.wrap .i64 (y4 - a1)))), ()) with
                              | none => none
                              | some (y48, y49, y50, _) => match quo? .i64 (IntKind.wrap .i64 (a2 - a1)) (8 : Int) with
                                | none => none
                                | some x51 => match (ilt (IntKind.wrap .i64 (y49 - a1)) (IntKind.wrap .i64 (a2 - y49))) with
                                  | true => match self (y48, a1, y49, (IntKind.wrap .i64 (a3 - (1 : Int))), ()) with
                                    | none => none
                                    | some (y52, _) => some (.inl (y52, (IntKind.wrap .i64 (y49 + (1 : Int))), a2, (IntKind.wrap .i64 (a3 - (1 : Int))), (ile x51 (IntKind.wrap .i64 (y49 - a1))), y50, ()))
                                  | false => match self (y48, (IntKind.wrap .i64 (y49 + (1 : Int))), a2, (IntKind.wrap .i64 (a3 - (1 : Int))), ()) with
                                    | none => none
                                    | some (y53, _) => some (.inl (y53, a1, y49, (IntKind.wrap .i64 (a3 - (1 : Int))), (ile x51 (IntKind.wrap .i64 (a2 - y49))), y50, ()))
                    | false => match partW (y6, a1, a2, (IntKind.wrap .i64 ((IntKind.wrap .i64 (a2 - (1 : Int))) - (IntKind.wrap .i64 (y4 - a1)))), ()) with
                      | none => none
                      | some (y54, y55, y56, _) => match quo? .i64 (IntKind.wrap .i64 (a2 - a1)) (8 : Int) with
                        | none => none
                        | some x57 => match (ilt (IntKind.wrap .i64 (y55 - a1)) (IntKind.wrap .i64 (a2 - y55))) with
                          | true => match self (y54, a1, y55, (IntKind.wrap .i64 (a3 - (1 : Int))), ()) with
                            | none => none
                            | some (y58, _) => some (.inl (y58, (IntKind.wrap .i64 (y55 + (1 : Int))), a2, (IntKind.wrap .i64 (a3 - (1 : Int))), (ile x57 (IntKind.wrap .i64 (y55 - a1))), y56, ()))
                          | false => match self (y54, (IntKind.wrap .i64 (y55 + (1 : Int))), a2, (IntKind.wrap .i64 (a3 - (1 : Int))), ()) with
                            | none => none
                            | some (y59, _) => some (.inl (y59, a1, y55, (IntKind.wrap .i64 (a3 - (1 : Int))), (ile x57 (IntKind.wrap .i64 (a2 - y55))), y56, ()))
                | false => match (ilt (0 : Int) a1) with
                  | true => match idx y6 (IntKind.wrap .i64 (a1 - (1 : Int))) with
                    | none => none
                    | some x60 => match idx y6 (IntKind.wrap .i64 ((IntKind.wrap .i64 (a2 - (1 : Int))) - (IntKind.wrap .i64 (y4 - a1)))) with
                      | none => none
                      | some x61 => match lessW ((dget y6 (dnat (IntKind.wrap .i64 (a1 - (1 : Int)))) (0 : Int)), (dget y6 (dnat (IntKind.wrap .i64 ((IntKind.wrap .i64 (a2 - (1 : Int))) - (IntKind.wrap .i64 (y4 - a1))))) (0 : Int)), ()) with
                        | none => none
                        | some (y62, _) => match (!y62) with
                          | true => match partEqW (y6, a1, a2, (IntKind.wrap .i64 ((IntKind.wrap .i64 (a2 - (1 : Int))) - (IntKind.wrap .i64 (y4 - a1)))), ()) with
                            | none => none
                            | some (y63, y64, _) => some (.inl (y63, y64, a2, (IntKind.wrap .i64 (a3 - (1 : Int))), a4, a5, ()))
                          | false => match partW (y6, a1, a2, (IntKind.wrap .i64 ((IntKind.wrap .i64 (a2 - (1 : Int))) - (IntKind.wrap .i64 (y4 - a1)))), ()) with
                            | none => none
                            | some (y65, y66, y67, _) => match quo? .i64 (IntKind.wrap .i64 (a2 - a1)) (8 : Int) with
                              | none => none
                              | some x68 => match (ilt (IntKind.wrap .i64 (y66 - a1)) (IntKind.wrap .i64 (a2 - y66))) with
                                | true => match self (y65, a1, y66, (IntKind.wrap .i64 (a3 - (1 : Int))), ()) with
                                  | none => none
                                  | some (y69, _) => some (.inl (y69, (IntKind.wrap .i64 (y66 + (1 : Int))), a2, (IntKind.wrap .i64 (a3 - (1 : Int))), (ile x68 (IntKind.wrap .i64 (y66 - a1))), y67, ()))
                                | false => match self (y65, (IntKind.wrap .i64 (y66 + (1 : Int))), a2, (IntKind.wrap .i64 (a3 - (1 : Int))), ()) with
                                  | none => none
                                  | some (y70, _) => some (.inl (y70, a1, y66, (IntKind.wrap .i64 (a3 - (1 : Int))), (ile x68 (IntKind.wrap .i64 (a2 - y66))), y67, ()))
                  | false => match partW (y6, a1, a2, (IntKind.wrap .i64 ((IntKind.wrap .i64 (a2 - (1 : Int))) - (IntKind.wrap .i64 (y4 - a1)))), ()) with
                    | none => none
                    | some (y71, y72, y73, _) => match quo? .i64 (IntKind.wrap .i64 (a2 - a1)) (8 : Int) with
                      | none => none
                      | some x74 => match (ilt (IntKind.wrap .i64 (y72 - a1)) (IntKind.wrap .i64 (a2 - y72))) with
                        | true => match self (y71, a1, y72, (IntKind.wrap .i64 (a3 - (1 : Int))), ()) with
                          | none => none
                          | some (y75, _) => some (.inl (y75, (IntKind.wrap .i64 (y72 + (1 : Int))), a2, (IntKind.wrap .i64 (a3 - (1 : Int))), (ile x74 (IntKind.wrap .i64 (y72 - a1))), y73, ()))
                        | false => match self (y71, (IntKind.wrap .i64 (y72 + (1 : Int))), a2, (IntKind.wrap .i64 (a3 - (1 : Int))), ()) with
                          | none => none
                          | some (y76, _) => some (.inl (y76, a1, y72, (IntKind.wrap .i64 (a3 - (1 : Int))), (ile x74 (IntKind.wrap .i64 (a2 - y72))), y73, ()))
            | false => match a4 with
              | true => match a5 with
                | true => match (ieq y5 (1 : Int)) with
                  | true => match partInsW (y3, a1, a2, ()) with
                    | none => none
                    | some (y77, y78, _) => match y78 with
                      | true => some (.inr (.inl (y77, ())))
                      | false => match (ilt (0 : Int) a1) with
                        | true => match idx y77 (IntKind.wrap .i64 (a1 - (1 : Int))) with
                          | none => none
                          | some x79 => match idx y77 y4 with
                            | none => none
                            | some x80 => match lessW ((dget y77 (dnat (IntKind.wrap .i64 (a1 - (1 : Int)))) (0 : Int)), (dget y77 (dnat y4) (0 : Int)), ()) with
                              | none => none
                              | some (y81, _) => match (!y81) with
                                | true => match partEqW (y77, a1, a2, y4, ()) with
                                  | none => none
                                  | some (y82, y83, _) => some (.inl (y82, y83, a2, (IntKind.wrap .i64 (a3 - (1 : Int))), a4, a5, ()))
                                | false => match partW (y77, a1, a2, y4, ()) with
                                  | none => none
                                  | some (y84, y85, y86, _) => match quo? .i64 (IntKind.wrap .i64 (a2 - a1)) (8 : Int) with
                                    | none => none
                                    | some x87 => match (ilt (IntKind.wrap .i64 (y85 - a1)) (IntKind.wrap .i64 (a2 - y85))) with
                                      | true => match self (y84, a1, y85, (IntKind.wrap .i64 (a3 - (1 : Int))), ()) with
                                        | none => none
                                        | some (y88, _) => some (.inl (y88, (IntKind.wrap .i64 (y85 + (1 : Int))), a2, (IntKind.wrap .i64 (a3 - (1 : Int))), (ile x87 (IntKind.wrap .i64 (y85 - a1))), y86, ()))
                                      | false => match self (y84, (IntKind.wrap .i64 (y85 + (1 : Int))), a2, (IntKind.wrap .i64 (a3 - (1 : Int))), ()) with
                                        | none => none
                                        | some (y89, _) => some (.inl (y89, a1, y85, (IntKind.wrap .i64 (a3 - (1 : Int))), (ile x87 (IntKind.wrap .i64 (a2 - y85))), y86, ()))
                        | false => match partW (y77, a1, a2, y4, ()) with
                          | none => none
                          | some (y90, y91, y92, _) => match quo? .i64 (IntKind.wrap .i64 (a2 - a1)) (8 : Int) with
                            | none => none
                            | some x93 => match (ilt (IntKind.wrap .i64 (y91 - a1)) (IntKind.wrap .i64 (a2 - y91))) with
                              | true => match self (y90, a1, y91, (IntKind.wrap .i64 (a3 - (1 : Int))), ()) with
                                | none => none
                                | some (y94, _) => some (.inl (y94, (IntKind.wrap .i64 (y91 + (1 : Int))), a2, (IntKind.wrap .i64 (a3 - (1 : Int))), (ile x93 (IntKind.wrap .i64 (y91 - a1))), y92, ()))
                              | false => match self (y90, (IntKind.wrap .i64 (y91 + (1 : Int))), a2, (IntKind.wrap .i64 (a3 - (1 : Int))), ()) with
                                | none => none
                                | some (y95, _) => some (.inl (y95, a1, y91, (IntKind.wrap .i64 (a3 - (1 : Int))), (ile x93 (IntKind.wrap .i64 (a2 - y91))), y92, ()))
                  | false => match (ilt (0 : Int) a1) with
                    | true => match idx y3 (IntKind.wrap .i64 (a1 - (1 : Int))) with
                      | none => none
                      | some x96 => match idx y3 y4 with
                        | none => none
                        | some x97 => match lessW ((dget y3 (dnat (IntKind.wrap .i64 (a1 - (1 : Int)))) (0 : Int)), (dget y3 (dnat y4) (0 : Int)), ()) with
                          | none => none
                          | some (y98, _) => match (!y98) with
                            | true => match partEqW (y3, a1, a2, y4, ()) with
                              | none => none
                              | some (y99, y100, _) => some (.inl (y99, y100, a2, (IntKind.wrap .i64 (a3 - (1 : Int))), a4, a5, ()))
                            | false => match partW (y3, a1, a2, y4, ()) with
                              | none => none
                              | some (y101, y102, y103, _) => match quo? .i64 (IntKind.wrap .i64 (a2 - a1)) (8 : Int) with
                                | none => none
                                | some x104 => match (ilt (IntKind.wrap .i64 (y102 - a1)) (IntKind.wrap .i64 (a2 - y102))) with
                                  | true => match self (y101, a1, y102, (IntKind.wrap .i64 (a3 - (1 : Int))), ()) with
                                    | none => none
                                    | some (y105, _) => some (.inl (y105, (IntKind.wrap .i64 (y102 + (1 : Int))), a2, (IntKind.wrap .i64 (a3 - (1 : Int))), (ile x104 (IntKind.wrap .i64 (y102 - a1))), y103, ()))
                                  | false => match self (y101, (IntKind.wrap .i64 (y102 + (1 : Int))), a2, (IntKind.wrap .i64 (a3 - (1 : Int))), ()) with
                                    | none => none
                                    | some (y106, _) => some (.inl (y106, a1, y102, (IntKind.wrap .i64 (a3 - (1 : Int))), (ile x104 (IntKind.wrap .i64 (a2 - y102))), y103, ()))
                    | false => match partW (y3, a1, a2, y4, ()) with
                      | none => none
                      | some (y107, y108, y109, _) => match quo? .i64 (IntKind.wrap .i64 (a2 - a1)) (8 : Int) with
                        | none => none
                        | some x110 => match (ilt (IntKind.wrap .i64 (y108 - a1)) (IntKind.wrap .i64 (a2 - y108))) with
                          | true => match self (y107, a1, y108, (IntKind.wrap .i64 (a3 - (1 : Int))), ()) with
                            | none => none
                            | some (y111, _) => some (.inl (y111, (IntKind.wrap .i64 (y108 + (1 : Int))), a2, (IntKind.wrap .i64 (a3 - (1 : Int))), (ile x110 (IntKind.wrap .i64 (y108 - a1))), y109, ()))
                          | false => match self (y107, (IntKind.wrap .i64 (y108 + (1 : Int))), a2, (IntKind.wrap .i64 (a3 - (1 : Int))), ()) with
                            | none => none
                            | some (y112, _) => some (.inl (y112, a1, y108, (IntKind.wrap .i64 (a3 - (1 : Int))), (ile x110 (IntKind.wrap .i64 (a2 - y108))), y109, ()))
                | false => match (ilt (0 : Int) a1) with
                  | true => match idx y3 (IntKind.wrap .i64 (a1 - (1 : Int))) with
                    | none => none
                    | some x113 => match idx y3 y4 with
                      | none => none
                      | some x114 => match lessW ((dget y3 (dnat (IntKind.wrap .i64 (a1 - (1 : Int)))) (0 : Int)), (dget y3 (dnat y4) (0 : Int)), ()) with
                        | none => none
                        | some (y115, _) => match (!y115) with
                          | true => match partEqW (y3, a1, a2, y4, ()) with
                            | none => none
                            | some (y116, y117, _) => some (.inl (y116, y117, a2, (IntKind.wrap .i64 (a3 - (1 : Int))), a4, a5, ()))
                          | false => match partW (y3, a1, a2, y4, ()) with
                            | none => none
                            | some (y118, y119, y120, _) => match quo? .i64 (IntKind.wrap .i64 (a2 - a1)) (8 : Int) with
                              | none => none
                              | some x121 => match (ilt (IntKind.wrap .i64 (y119 - a1)) (IntKind.wrap .i64 (a2 - y119))) with
                                | true => match self (y118, a1, y119, (IntKind.wrap .i64 (a3 - (1 : Int))), ()) with
                                  | none => none
                                  | some (y122, _) => some (.inl (y122, (IntKind.wrap .i64 (y119 + (1 : Int))), a2, (IntKind.wrap .i64 (a3 - (1 : Int))), (ile x121 (IntKind.wrap .i64 (y119 - a1))), y120, ()))
                                | false => match self (y118, (IntKind.wrap .i64 (y119 + (1 : Int))), a2, (IntKind.wrap .i64 (a3 - (1 : Int))), ()) with
                                  | none => none
                                  | some (y123, _) => some (.inl (y123, a1, y119, (IntKind.wrap .i64 (a3 - (1 : Int))), (ile x121 (IntKind.wrap .i64 (a2 - y119))), y120, ()))
                  | false => match partW (y3, a1, a2, y4, ()) with
                    | none => none
                    | some (y124, y125, y126, _) => match quo? .i64 (IntKind.wrap .i64 (a2 - a1)) (8 : Int) with
                      | none => none
                      | some x127 => match (ilt (IntKind.wrap .i64 (y125 - a1)) (IntKind.wrap .i64 (a2 - y125))) with
                        | true => match self (y124, a1, y125, (IntKind.wrap .i64 (a3 - (1 : Int))), ()) with
                          | none => none
                          | some (y128, _) => some (.inl (y128, (IntKind.wrap .i64 (y125 + (1 : Int))), a2, (IntKind.wrap .i64 (a3 - (1 : Int))), (ile x127 (IntKind.wrap .i64 (y125 - a1))), y126, ()))
                        | false => match self (y124, (IntKind.wrap .i64 (y125 + (1 : Int))), a2, (IntKind.wrap .i64 (a3 - (1 : Int))), ()) with
                          | none => none
                          | some (y129, _) => some (.inl (y129, a1, y125, (IntKind.wrap .i64 (a3 - (1 : Int))), (ile x127 (IntKind.wrap .i64 (a2 - y125))), y126, ()))
              | false => match (ilt (0 : Int) a1) with
                | true => match idx y3 (IntKind.wrap .i64 (a1 - (1 : Int))) with
                  | none => none
                  | some x130 => match idx y3 y4 with
                    | none => none
                    | some x131 => match lessW ((dget y3 (dnat (IntKind.wrap .i64 (a1 - (1 : Int)))) (0 : Int)), (dget y3 (dnat y4) (0 : Int)), ()) with
                      | none => none
                      | some (y132, _) => match (!y132) with
                        | true => match partEqW (y3, a1, a2, y4, ()) with
                          | none => none
                          | some (y133, y134, _) => some (.inl (y133, y134, a2, (IntKind.wrap .i64 (a3 - (1 : Int))), a4, a5, ()))
                        | false => match partW (y3, a1, a2, y4, ()) with
                          | none => none
                          | some (y135, y136, y137, _) => match quo? .i64 (IntKind.wrap .i64 (a2 - a1)) (8 : Int) with
                            | none => none
                            | some x138 => match (ilt (IntKind.wrap .i64 (y136 - a1)) (IntKind.wrap .i64 (a2 - y136))) with
                              | true => match self (y135, a1, y136, (IntKind.wrap .i64 (a3 - (1 : Int))), ()) with
                                | none => none
                                | some (y139, _) => some (.inl (y139, (IntKind.wrap .i64 (y136 + (1 : Int))), a2, (IntKind.wrap .i64 (a3 - (1 : Int))), (ile x138 (IntKind.wrap .i64 (y136 - a1))), y137, ()))
                              | false => match self (y135, (IntKind.wrap .i64 (y136 + (1 : Int))), a2, (IntKind.wrap .i64 (a3 - (1 : Int))), ()) with
                                | none => none
                                | some (y140, _) => some (.inl (y140, a1, y136, (IntKind.wrap .i64 (a3 - (1 : Int))), (ile x138 (IntKind.wrap .i64 (a2 - y136))), y137, ()))
                | false => match partW (y3, a1, a2, y4, ()) with
                  | none => none
                  | some (y141, y142, y143, _) => match quo? .i64 (IntKind.wrap .i64 (a2 - a1)) (8 : Int) with
                    | none => none
                    | some x144 => match (ilt (IntKind.wrap .i64 (y142 - a1)) (IntKind.wrap .i64 (a2 - y142))) with
                      | true => match self (y141, a1, y142, (IntKind.wrap .i64 (a3 - (1 : Int))), ()) with
                        | none => none
                        | some (y145, _) => some (.inl (y145, (IntKind.wrap .i64 (y142 + (1 : Int))), a2, (IntKind.wrap .i64 (a3 - (1 : Int))), (ile x144 (IntKind.wrap .i64 (y142 - a1))), y143, ()))
                      | false => match self (y141, (IntKind.wrap .i64 (y142 + (1 : Int))), a2, (IntKind.wrap .i64 (a3 - (1 : Int))), ()) with
                        | none => none
                        | some (y146, _) => some (.inl (y146, a1, y142, (IntKind.wrap .i64 (a3 - (1 : Int))), (ile x144 (IntKind.wrap .i64 (a2 - y142))), y143, ()))
      | false => match pivotW (a0, a1, a2, ()) with
        | none => none
        | some (y147, y148, y149, _) => match (ieq y149 (2 : Int)) with
          | true => match revW (y147, a1, a2, ()) with
            | none => none
            | some (y150, _) => match a4 with
              | true => match a5 with
                | true => match (ieq (1 : Int) (1 : Int)) with
                  | true => match partInsW (y150, a1, a2, ()) with
                    | none => none
                    | some (y151, y152, _) => match y152 with
                      | true => some (.inr (.inl (y151, ())))
                      | false => match (ilt (0 : Int) a1) with
                        | true => match idx y151 (IntKind.wrap .i64 (a1 - (1 : Int))) with
                          | none => none
                          | some x153 => match idx y151 (IntKind.wrap .i64 ((IntKind.wrap .i64 (a2 - (1 : Int))) - (IntKind.wrap .i64 (y148 - a1)))) with
                            | none => none
                            | some x154 => match lessW ((dget y151 (dnat (IntKind.wrap .i64 (a1 - (1 : Int)))) (0 : Int)), (dget y151 (dnat (IntKind.wrap .i64 ((IntKind.wrap .i64 (a2 - (1 : Int))) - (IntKind.wrap .i64 (y148 - a1))))) (0 : Int)), ()) with
                              | none => none
                              | some (y155, _) => match (!y155) with
                                | true => match partEqW (y151, a1, a2, (IntKind.wrap .i64 ((IntKind.wrap .i64 (a2 - (1 : Int))) - (IntKind.wrap .i64 (y148 - a1)))), ()) with
                                  | none => none
                                  | some (y156, y157, _) => some (.inl (y156, y157, a2, a3, a4, a5, ()))
                                | false => match partW (y151, a1, a2, (IntKind.wrap .i64 ((IntKind.wrap .i64 (a2 - (1 : Int))) - (IntKind.wrap .i64 (y148 - a1)))), ()) with
                                  | none => none
                                  | some (y158, y159, y160, _) => match quo? .i64 (IntKind.wrap .i64 (a2 - a1)) (8 : Int) with
                                    | none => none
                                    | some x161 => match (ilt (IntKind.wrap .i64 (y159 - a1)) (IntKind.wrap .i64 (a2 - y159))) with
                                      | true => match self (y158, a1, y159, a3, ()) with
                                        | none => none
                                        | some (y162, _) => some (.inl (y162, (IntKind.wrap .i64 (y159 + (1 : Int))), a2, a3, (ile x161 (IntKind.wrap .i64 (y159 - a1))), y160, ()))
                                      | false => match self (y158, (IntKind.wrap .i64 (y159 + (1 : Int))), a2, a3, ()) with
                                        | none => none
                                        | some (y163, _) => some (.inl (y163, a1, y159, a3, (ile x161 (IntKind.wrap .i64 (a2 - y159))), y160, ()))
                        | false => match partW (y151, a1, a2, (IntKind.wrap .i64 ((IntKind.wrap .i64 (a2 - (1 : Int))) - (IntKind.wrap .i64 (y148 - a1)))), ()) with
                          | none => none
                          | some (y164, y165, y166, _) => match quo? .i64 (IntKind.wrap .i64 (a2 - a1)) (8 : Int) with
                            | none => none
                            | some x167 => match (ilt (IntKind.wrap .i64 (y165 - a1)) (IntKind.wrap .i64 (a2 - y165))) with
                              | true => match self (y164, a1, y165, a3, ()) with
                                | none => none
                                | some (y168, _) => some (.inl (y168, (IntKind.wrap .i64 (y165 + (1 : Int))), a2, a3, (ile x167 (IntKind.wrap .i64 (y165 - a1))), y166, ()))
                              | false => match self (y164, (IntKind.wrap .i64 (y165 + (1 : Int))), a2, a3, ()) with
                                | none => none
                                | some (y169, _) => some (.inl (y169, a1, y165, a3, (ile x167 (IntKind.wrap .i64 (a2 - y165))), y166, ()))
                  | false => match (ilt (0 : Int) a1) with
                    | true => match idx y150 (IntKind.wrap .i64 (a1 - (1 : Int))) with
                      | none => none
                      | some x170 => match idx y150 (IntKind.wrap .i64 ((IntKind.wrap .i64 (a2 - (1 : Int))) - (IntKind.wrap .i64 (y148 - a1)))) with
                        | none => none
                        | some x171 => match lessW ((dget y150 (dnat (IntKind.wrap .i64 (a1 - (1 : Int)))) (0 : Int)), (dget y150 (dnat (IntKind.wrap .i64 ((IntKind.wrap .i64 (a2 - (1 : Int))) - (IntKind.wrap .i64 (y148 - a1))))) (0 : Int)), ()) with
                          | none => none
                          | some (y172, _) => match (!y172) with
                            | true => match partEqW (y150, a1, a2, (IntKind.wrap .i64 ((IntKind.wrap .i64 (a2 - (1 : Int))) - (IntKind.wrap .i64 (y148 - a1)))), ()) with
                              | none => none
                              | some (y173, y174, _) => some (.inl (y173, y174, a2, a3, a4, a5, ()))
                            | false => match partW (y150, a1, a2, (IntKind.wrap .i64 ((IntKind.wrap .i64 (a2 - (1 : Int))) - (IntKind.wrap .i64 (y148 - a1)))), ()) with
                              | none => none
                              | some (y175, y176, y177, _) => match quo? .i64 (IntKind.wrap .i64 (a2 - a1)) (8 : Int) with
                                | none => none
                                | some x178 => match (ilt (IntKind.wrap .i64 (y176 - a1)) (IntKind.wrap .i64 (a2 - y176))) with
                                  | true => match self (y175, a1, y176, a3, ()) with
                                    | none => none
                                    | some (y179, _) => some (.inl (y179, (IntKind.wrap .i64 (y176 + (1 : Int))), a2, a3, (ile x178 (IntKind.wrap .i64 (y176 - a1))), y177, ()))
                                  | false => match self (y175, (IntKind.wrap .i64 (y176 + (1 : Int))), a2, a3, ()) with
                                    | none => none
                                    | some (y180, _) => some (.inl (y180, a1, y176, a3, (ile x178 (IntKind.wrap .i64 (a2 - y176))), y177, ()))
                    | false => match partW (y150, a1, a2, (IntKind.wrap .i64 ((IntKind.wrap .i64 (a2 - (1 : Int))) - (IntKind.wrap .i64 (y148 - a1)))), ()) with
                      | none => none
                      | some (y181, y182, y183, _) => match quo? .i64 (IntKind.wrap .i64 (a2 - a1)) (8 : Int) with
                        | none => none
                        | some x184 => match (ilt (IntKind.wrap .i64 (y182 - a1)) (IntKind.wrap .i64 (a2 - y182))) with
                          | true => match self (y181, a1, y182, a3, ()) with
                            | none => none
                            | some (y185, _) => some (.inl (y185, (IntKind.wrap .i64 (y182 + (1 : Int))), a2, a3, (ile x184 (IntKind.wrap .i64 (y182 - a1))), y183, ()))
                          | false => match self (y181, (IntKind.wrap .i64 (y182 + (1 : Int))), a2, a3, ()) with
                            | none => none
                            | some (y186, _) => some (.inl (y186, a1, y182, a3, (ile x184 (IntKind.wrap .i64 (a2 - y182))), y183, ()))
                | false => match (ilt (0 : Int) a1) with
                  | true => match idx y150 (IntKind.wrap .i64 (a1 - (1 : Int))) with
                    | none => none
                    | some x187 => match idx y150 (IntKind.wrap .i64 ((IntKind.wrap .i64 (a2 - (1 : Int))) - (IntKind.wrap .i64 (y148 - a1)))) with
                      | none => none
                      | some x188 => match lessW ((dget y150 (dnat (IntKind.wrap .i64 (a1 - (1 : Int)))) (0 : Int)), (dget y150 (dnat (IntKind.wrap .i64 ((IntKind.wrap .i64 (a2 - (1 : Int))) - (IntKind.wrap .i64 (y148 - a1))))) (0 : Int)), ()) with
                        | none => none
                        | some (y189, _) => match (!y189) with
                          | true => match partEqW (y150, a1, a2, (IntKind.wrap .i64 ((IntKind.wrap .i64 (a2 - (1 : Int))) - (IntKind.wrap .i64 (y148 - a1)))), ()) with
                            | none => none
                            | some (y190, y191, _) => some (.inl (y190, y191, a2, a3, a4, a5, ()))
                          | false => match partW (y150, a1, a2, (IntKind.wrap .i64 ((IntKind.wrap .i64 (a2 - (1 : Int))) - (IntKind.wrap .i64 (y148 - a1)))), ()) with
                            | none => none
                            | some (y192, y193, y194, _) => match quo? .i64 (IntKind.wrap .i64 (a2 - a1)) (8 : Int) with
                              | none => none
                              | some x195 => match (ilt (IntKind.wrap .i64 (y193 - a1)) (IntKind.wrap .i64 (a2 - y193))) with
                                | true => match self (y192, a1, y193, a3, ()) with
                                  | none => none
                                  | some (y196, _) => some (.inl (y196, (IntKind.wrap .i64 (y193 + (1 : Int))), a2, a3, (ile x195 (IntKind.wrap .i64 (y193 - a1))), y194, ()))
                                | false => match self (y192, (IntKind.wrap .i64 (y193 + (1 : Int))), a2, a3, ()) with
                                  | none => none
                                  | some (y197, _) => some (.inl (y197, a1, y193, a3, (ile x195 (IntKind.wrap .i64 (a2 - y193))), y194, ()))
                  | false => match partW (y150, a1, a2, (IntKind.wrap .i64 ((IntKind.wrap .i64 (a2 - (1 : Int))) - (IntKind.wrap .i64 (y148 - a1)))), ()) with
                    | none => none
                    | some (y198, y199, y200, _) => match quo? .i64 (IntKind.wrap .i64 (a2 - a1)) (8 : Int) with
                      | none => none
                      | some x201 => match (ilt (IntKind.wrap .i64 (y199 - a1)) (IntKind.wrap .i64 (a2 - y199))) with
                        | true => match self (y198, a1, y199, a3, ()) with
                          | none => none
                          | some (y202, _) => some (.inl (y202, (IntKind.wrap .i64 (y199 + (1 : Int))), a2, a3, (ile x201 (IntKind.wrap .i64 (y199 - a1))), y200, ()))
                        | false => match self (y198, (IntKind.wrap .i64 (y199 + (1 : Int))), a2, a3, ()) with
                          | none => none
                          | some (y203, _) => some (.inl (y203, a1, y199, a3, (ile x201 (IntKind.wrap .i64 (a2 - y199))), y200, ()))
              | false => match (ilt (0 : Int) a1) with
                | true => match idx y150 (IntKind.wrap .i64 (a1 - (1 : Int))) with
                  | none => none
                  | some x204 => match idx y150 (IntKind.wrap .i64 ((IntKind.wrap .i64 (a2 - (1 : Int))) - (IntKind.wrap .i64 (y148 - a1)))) with
                    | none => none
                    | some x205 => match lessW ((dget y150 (dnat (IntKind.wrap .i64 (a1 - (1 : Int)))) (0 : Int)), (dget y150 (dnat (IntKind.wrap .i64 ((IntKind.wrap .i64 (a2 - (1 : Int))) - (IntKind.wrap .i64 (y148 - a1))))) (0 : Int)), ()) with
                      | none => none
                      | some (y206, _) => match (!y206) with
                        | true => match partEqW (y150, a1, a2, (IntKind.wrap .i64 ((IntKind.wrap .i64 (a2 - (1 : Int))) - (IntKind.wrap .i64 (y148 - a1)))), ()) with
                          | none => none
                          | some (y207, y208, _) => some (.inl (y207, y208, a2, a3, a4, a5, ()))
                        | false => match partW (y150, a1, a2, (IntKind.wrap .i64 ((IntKind.wrap .i64 (a2 - (1 : Int))) - (IntKind.wrap .i64 (y148 - a1)))), ()) with
                          | none => none
                          | some (y209, y210, y211, _) => match quo? .i64 (IntKind.wrap .i64 (a2 - a1)) (8 : Int) with
                            | none => none
                            | some x212 => match (ilt (IntKind.wrap .i64 (y210 - a1)) (IntKind.wrap .i64 (a2 - y210))) with
                              | true => match self (y209, a1, y210, a3, ()) with
                                | none => none
                                | some (y213, _) => some (.inl (y213, (IntKind.wrap .i64 (y210 + (1 : Int))), a2, a3, (ile x212 (IntKind.wrap .i64 (y210 - a1))), y211, ()))
                              | false => match self (y209, (IntKind.wrap .i64 (y210 + (1 : Int))), a2, a3, ()) with
                                | none => none
                                | some (y214, _) => some (.inl (y214, a1, y210, a3, (ile x212 (IntKind.wrap .i64 (a2 - y210))), y211, ()))
                | false => match partW (y150, a1, a2, (IntKind.wrap .i64 ((IntKind.wrap .i64 (a2 - (1 : Int))) - (IntKind.wrap .i64 (y148 - a1)))), ()) with
                  | none => none
                  | some (y215, y216, y217, _) => match quo? .i64 (IntKind.wrap .i64 (a2 - a1)) (8 : Int) with
                    | none => none
                    | some x218 => match (ilt (IntKind.wrap .i64 (y216 - a1)) (IntKind.wrap .i64 (a2 - y216))) with
                      | true => match self (y215, a1, y216, a3, ()) with
                        | none => none
                        | some (y219, _) => some (.inl (y219, (IntKind.wrap .i64 (y216 + (1 : Int))), a2, a3, (ile x218 (IntKind.wrap .i64 (y216 - a1))), y217, ()))
                      | false => match self (y215, (IntKind.wrap .i64 (y216 + (1 : Int))), a2, a3, ()) with
                        | none => none
                        | some (y220, _) => some (.inl (y220, a1, y216, a3, (ile x218 (IntKind.wrap .i64 (a2 - y216))), y217, ()))
          | false => match a4 with
            | true => match a5 with
              | true => match (ieq y149 (1 : Int)) with
                | true => match partInsW (y147, a1, a2, ()) with
                  | none => none
                  | some (y221, y222, _) => match y222 with
                    | true => some (.inr (.inl (y221, ())))
                    | false => match (ilt (0 : Int) a1) with
                      | true => match idx y221 (IntKind.wrap .i64 (a1 - (1 : Int))) with
                        | none => none
                        | some x223 => match idx y221 y148 with
                          | none => none
                          | some x224 => match lessW ((dget y221 (dnat (IntKind.wrap .i64 (a1 - (1 : Int)))) (0 : Int)), (dget y221 (dnat y148) (0 : Int)), ()) with
                            | none => none
                            | some (y225, _) => match (!y225) with
                              | true => match partEqW (y221, a1, a2, y148, ()) with
                                | none => none
                                | some (y226, y227, _) => some (.inl (y226, y227, a2, a3, a4, a5, ()))
                              | false => match partW (y221, a1, a2, y148, ()) with
                                | none => none
                                | some (y228, y229, y230, _) => match quo? .i64 (IntKind.wrap .i64 (a2 - a1)) (8 : Int) with
                                  | none => none
                                  | some x231 => match (ilt (IntKind.wrap .i64 (y229 - a1)) (IntKind.wrap .i64 (a2 - y229))) with
                                    | true => match self (y228, a1, y229, a3, ()) with
                                      | none => none
                                      | some (y232, _) => some (.inl (y232, (IntKind.wrap .i64 (y229 + (1 : Int))), a2, a3, (ile x231 (IntKind.wrap .i64 (y229 - a1))), y230, ()))
                                    | false => match self (y228, (IntKind.wrap .i64 (y229 + (1 : Int))), a2, a3, ()) with
                                      | none => none
                                      | some (y233, _) => some (.inl (y233, a1, y229, a3, (ile x231 (IntKind.wrap .i64 (a2 - y229))), y230, ()))
                      | false => match partW (y221, a1, a2, y148, ()) with
                        | none => none
                        | some (y234, y235, y236, _) => match quo? .i64 (IntKind.wrap .i64 (a2 - a1)) (8 : Int) with
                          | none => none
                          | some x237 => match (ilt (IntKind.wrap .i64 (y235 - a1)) (IntKind.wrap .i64 (a2 - y235))) with
                            | true => match self (y234, a1, y235, a3, ()) with
                              | none => none
                              | some (y238, _) => some (.inl (y238, (IntKind.wrap .i64 (y235 + (1 : Int))), a2, a3, (ile x237 (IntKind.wrap .i64 (y235 - a1))), y236, ()))
                            | false => match self (y234, (IntKind.wrap .i64 (y235 + (1 : Int))), a2, a3, ()) with
                              | none => none
                              | some (y239, _) => some (.inl (y239, a1, y235, a3, (ile x237 (IntKind.wrap .i64 (a2 - y235))), y236, ()))
                | false => match (ilt (0 : Int) a1) with
                  | true => match idx y147 (IntKind.wrap .i64 (a1 - (1 : Int))) with
                    | none => none
                    | some x240 => match idx y147 y148 with
                      | none => none
                      | some x241 => match lessW ((dget y147 (dnat (IntKind.wrap .i64 (a1 - (1 : Int)))) (0 : Int)), (dget y147 (dnat y148) (0 : Int)), ()) with
                        | none => none
                        | some (y242, _) => match (!y242) with
                          | true => match partEqW (y147, a1, a2, y148, ()) with
                            | none => none
                            | some (y243, y244, _) => some (.inl (y243, y244, a2, a3, a4, a5, ()))
                          | false => match partW (y147, a1, a2, y148, ()) with
                            | none => none
                            | some (y245, y246, y247, _) => match quo? .i64 (IntKind.wrap .i64 (a2 - a1)) (8 : Int) with
                              | none => none
                              | some x248 => match (ilt (IntKind.wrap .i64 (y246 - a1)) (IntKind.wrap .i64 (a2 - y246))) with
                                | true => match self (y245, a1, y246, a3, ()) with
                                  | none => none
                                  | some (y249, _) => some (.inl (y249, (IntKind.wrap .i64 (y246 + (1 : Int))), a2, a3, (ile x248 (IntKind.wrap .i64 (y246 - a1))), y247, ()))
                                | false => match self (y245, (IntKind.wrap .i64 (y246 + (1 : Int))), a2, a3, ()) with
                                  | none => none
                                  | some (y250, _) => some (.inl (y250, a1, y246, a3, (ile x248 (IntKind.wrap .i64 (a2 - y246))), y247, ()))
                  | false => match partW (y147, a1, a2, y148, ()) with
                    | none => none
                    | some (y251, y252, y253, _) => match quo? .i64 (IntKind.wrap .i64 (a2 - a1)) (8 : Int) with
                      | none => none
                      | some x254 => match (ilt (IntKind.wrap .i64 (y252 - a1)) (IntKind.wrap .i64 (a2 - y252))) with
                        | true => match self (y251, a1, y252, a3, ()) with
                          | none => none
                          | some (y255, _) => some (.inl (y255, (IntKind.wrap .i64 (y252 + (1 : Int))), a2, a3, (ile x254 (IntKind.wrap .i64 (y252 - a1))), y253, ()))
                        | false => match self (y251, (IntKind.wrap .i64 (y252 + (1 : Int))), a2, a3, ()) with
                          | none => none
                          | some (y256, _) => some (.inl (y256, a1, y252, a3, (ile x254 (IntKind.wrap .i64 (a2 - y252))), y253, ()))
              | false => match (ilt (0 : Int) a1) with
                | true => match idx y147 (IntKind.wrap .i64 (a1 - (1 : Int))) with
                  | none => none
                  | some x257 => match idx y147 y148 with
                    | none => none
                    | some x258 => match lessW ((dget y147 (dnat (IntKind.wrap .i64 (a1 - (1 : Int)))) (0 : Int)), (dget y147 (dnat y148) (0 : Int)), ()) with
                      | none => none
                      | some (y259, _) => match (!y259) with
                        | true => match partEqW (y147, a1, a2, y148, ()) with
                          | none => none
                          | some (y260, y261, _) => some (.inl (y260, y261, a2, a3, a4, a5, ()))
                        | false => match partW (y147, a1, a2, y148, ()) with
                          | none => none
                          | some (y262, y263, y264, _) => match quo? .i64 (IntKind.wrap .i64 (a2 - a1)) (8 : Int) with
                            | none => none
                            | some x265 => match (ilt (IntKind.wrap .i64 (y263 - a1)) (IntKind.wrap .i64 (a2 - y263))) with
                              | true => match self (y262, a1, y263, a3, ()) with
                                | none => none
                                | some (y266, _) => some (.inl (y266, (IntKind.wrap .i64 (y263 + (1 : Int))), a2, a3, (ile x265 (IntKind.wrap .i64 (y263 - a1))), y264, ()))
                              | false => match self (y262, (IntKind.wrap .i64 (y263 + (1 : Int))), a2, a3, ()) with
                                | none => none
                                | some (y267, _) => some (.inl (y267, a1, y263, a3, (ile x265 (IntKind.wrap .i64 (a2 - y263))), y264, ()))
                | false => match partW (y147, a1, a2, y148, ()) with
                  | none => none
                  | some (y268, y269, y270, _) => match quo? .i64 (IntKind.wrap .i64 (a2 - a1)) (8 : Int) with
                    | none => none
                    | some x271 => match (ilt (IntKind.wrap .i64 (y269 - a1)) (IntKind.wrap .i64 (a2 - y269))) with
                      | true => match self (y268, a1, y269, a3, ()) with
                        | none => none
                        | some (y272, _) => some (.inl (y272, (IntKind.wrap .i64 (y269 + (1 : Int))), a2, a3, (ile x271 (IntKind.wrap .i64 (y269 - a1))), y270, ()))
                      | false => match self (y268, (IntKind.wrap .i64 (y269 + (1 : Int))), a2, a3, ()) with
                        | none => none
                        | some (y273, _) => some (.inl (y273, a1, y269, a3, (ile x271 (IntKind.wrap .i64 (a2 - y269))), y270, ()))
            | false => match (ilt (0 : Int) a1) with
              | true => match idx y147 (IntKind.wrap .i64 (a1 - (1 : Int))) with
                | none => none
                | some x274 => match idx y147 y148 with
                  | none => none
                  | some x275 => match lessW ((dget y147 (dnat (IntKind.wrap .i64 (a1 - (1 : Int)))) (0 : Int)), (dget y147 (dnat y148) (0 : Int)), ()) with
                    | none => none
                    | some (y276, _) => match (!y276) with
                      | true => match partEqW (y147, a1, a2, y148, ()) with
                        | none => none
                        | some (y277, y278, _) => some (.inl (y277, y278, a2, a3, a4, a5, ()))
                      | false => match partW (y147, a1, a2, y148, ()) with
                        | none => none
                        | some (y279, y280, y281, _) => match quo? .i64 (IntKind.wrap .i64 (a2 - a1)) (8 : Int) with
                          | none => none
                          | some x282 => match (ilt (IntKind.wrap .i64 (y280 - a1)) (IntKind.wrap .i64 (a2 - y280))) with
                            | true => match self (y279, a1, y280, a3, ()) with
                              | none => none
                              | some (y283, _) => some (.inl (y283, (IntKind.wrap .i64 (y280 + (1 : Int))), a2, a3, (ile x282 (IntKind.wrap .i64 (y280 - a1))), y281, ()))
                            | false => match self (y279, (IntKind.wrap .i64 (y280 + (1 : Int))), a2, a3, ()) with
                              | none => none
                              | some (y284, _) => some (.inl (y284, a1, y280, a3, (ile x282 (IntKind.wrap .i64 (a2 - y280))), y281, ()))
              | false => match partW (y147, a1, a2, y148, ()) with
                | none => none
                | some (y285, y286, y287, _) => match quo? .i64 (IntKind.wrap .i64 (a2 - a1)) (8 : Int) with
                  | none => none
                  | some x288 => match (ilt (IntKind.wrap .i64 (y286 - a1)) (IntKind.wrap .i64 (a2 - y286))) with
                    | true => match self (y285, a1, y286, a3, ()) with
                      | none => none
                      | some (y289, _) => some (.inl (y289, (IntKind.wrap .i64 (y286 + (1 : Int))), a2, a3, (ile x288 (IntKind.wrap .i64 (y286 - a1))), y287, ()))
                    | false => match self (y285, (IntKind.wrap .i64 (y286 + (1 : Int))), a2, a3, ()) with
                      | none => none
                      | some (y290, _) => some (.inl (y290, a1, y286, a3, (ile x288 (IntKind.wrap .i64 (a2 - y286))), y287, ()))
def pdqW_d (self : (List Int × Int × Int × Int × Unit) → Option ((List Int × Unit))) : (List Int × Int × Int × Int × Unit) → Option ((List Int × Unit)) := fun (a0, a1, a2, a3, _) =>
  match iterL (pdqW_s0 self) many (a0, a1, a2, a3, true, true, ()) with
  | none => none
  | some r => match r with
    | .inl (o0, _) => some (o0, ())
    | .inr _ => none
def pdqW_f : Nat → (List Int × Int × Int × Int × Unit) → Option ((List Int × Unit))
  | 0, _ => none
  | n + 1, v => pdqW_d (pdqW_f n) v
def pdqW (v : (List Int × Int × Int × Int × Unit)) : Option ((List Int × Unit)) := lock (pdqW_f 100 v)
theorem pdqW_eq (v : (List Int × Int × Int × Int × Unit)) : pdqW v = pdqW_f 100 v := lock_eq _
def pdqW_s0C (self : (List Int × Int × Int × Int × Unit) → Option ((List Int × Unit))) : (List Int × Int × Int × Int × Bool × Bool × Unit) → Option ((List Int × Int × Int × Int × Bool × Bool × Unit) ⊕ (List Int × Unit) ⊕ Unit) := fun (a0, a1, a2, a3, a4, a5, _) =>
  match (ileR (IntKind.wrap .i64 (a2 - a1)) (12 : Int)) with
  | true => match insWC (a0, a1, a2, ()) with
    | none => none
    | some (y0, _) => some (.inr (.inl (y0, ())))
  | false => match (ieqR a3 (0 : Int)) with
    | true => match heapWC (a0, a1, a2, ()) with
      | none => none
      | some (y1, _) => some (.inr (.inl (y1, ())))
    | false => match (!a4) with
      | true => match breakWC (a0, a1, a2, ()) with
        | none => none
        | some (y2, _) => match pivotWC (y2, a1, a2, ()) with
          | none => none
          | some (y3, y4, y5, _) => match (ieqR y5 (2 : Int)) with
            | true => match revWC (y3, a1, a2, ()) with
              | none => none
              | some (y6, _) => match a4 with
                | true => match a5 with
                  | true => match (ieqR (1 : Int) (1 : Int)) with
                    | true => match partInsWC (y6, a1, a2, ()) with
                      | none => none
                      | some (y7, y8, _) => match y8 with
                        | true => some (.inr (.inl (y7, ())))
                        | false => match (iltR (0 : Int) a1) with
                          | true => match idxR y7 (IntKind.wrap .i64 (a1 - (1 : Int))) with
                            | none => none
                            | some x9 => match idxR y7 (IntKind.wrap .i64 ((IntKind.wrap .i64 (a2 - (1 : Int))) - (IntKind.wrap .i64 (y4 - a1)))) with
                              | none => none
                              | some x10 => match lessWC ((dget y7 (dnat (IntKind.wrap .i64 (a1 - (1 : Int)))) (0 : Int)), (dget y7 (dnat (IntKind.wrap .i64 ((IntKind.wrap .i64 (a2 - (1 : Int))) - (IntKind.wrap .i64 (y4 - a1))))) (0 : Int)), ()) with
                                | none => none
                                | some (y11, _) => match (!y11) with
                                  | true => match partEqWC (y7, a1, a2, (IntKind.wrap .i64 ((IntKind.wrap .i64 (a2 - (1 : Int))) - (IntKind.wrap .i64 (y4 - a1)))), ()) with
                                    | none => none
                                    | some (y12, y13, _) => some (.inl (y12, y13, a2, (IntKind.wrap .i64 (a3 - (1 : Int))), a4, a5, ()))
                                  | false => match partWC (y7, a1, a2, (IntKind.wrap .i64 ((IntKind.wrap .i64 (a2 - (1 : Int))) - (IntKind.wrap .i64 (y4 - a1)))), ()) with
                                    | none => none
                                    | some (y14, y15, y16, _) => match quoR .i64 (IntKind.wrap .i64 (a2 - a1)) (8 : Int) with
                                      | none => none
                                      | some x17 => match (iltR (IntKind.wrap .i64 (y15 - a1)) (IntKind.wrap .i64 (a2 - y15))) with
                                        | true => match self (y14, a1, y15, (IntKind.wrap .i64 (a3 - (1 : Int))), ()) with
                                          | none => none
                                          | some (y18, _) => some (.inl (y18, (IntKind.wrap .i64 (y15 + (1 : Int))), a2, (IntKind.wrap .i64 (a3 - (1 : Int))), (ileR x17 (IntKind.wrap .i64 (y15 - a1))), y16, ()))
                                        | false => match self (y14, (IntKind.wrap .i64 (y15 + (1 : Int))), a2, (IntKind.wrap .i64 (a3 - (1 : Int))), ()) with
                                          | none => none
                                          | some (y19, _) => some (.inl (y19, a1, y15, (IntKind.wrap .i64 (a3 - (1 : Int))), (ileR x17 (IntKind.wrap .i64 (a2 - y15))), y16, ()))
                          | false => match partWC (y7, a1, a2, (IntKind.wrap .i64 ((IntKind.wrap .i64 (a2 - (1 : Int))) - (IntKind.wrap .i64 (y4 - a1)))), ()) with
                            | none => none
                            | some (y20, y21, y22, _) => match quoR .i64 (IntKind.wrap .i64 (a2 - a1)) (8 : Int) with
                              | none => none
                              | some x23 => match (iltR (IntKind.wrap .i64 (y21 - a1)) (IntKind.wrap .i64 (a2 - y21))) with
                                | true => match self (y20, a1, y21, (IntKind.wrap .i64 (a3 - (1 : Int))), ()) with
                                  | none => none
                                  | some (y24, _) => some (.inl (y24, (IntKind.wrap .i64 (y21 + (1 : Int))), a2, (IntKind.wrap .i64 (a3 - (1 : Int))), (ileR x23 (IntKind.wrap .i64 (y21 - a1))), y22, ()))
                                | false => match self (y20, (IntKind.wrap .i64 (y21 + (1 : Int))), a2, (IntKind.wrap .i64 (a3 - (1 : Int))), ()) with
                                  | none => none
                                  | some (y25, _) => some (.inl (y25, a1, y21, (IntKind.wrap .i64 (a3 - (1 : Int))), (ileR x23 (IntKind.wrap .i64 (a2 - y21))), y22, ()))
                    | false => match (iltR (0 : Int) a1) with
                      | true => match idxR y6 (IntKind.wrap .i64 (a1 - (1 : Int))) with
                        | none => none
                        | some x26 => match idxR y6 (IntKind.wrap .i64 ((IntKind.wrap .i64 (a2 - (1 : Int))) - (IntKind.wrap .i64 (y4 - a1)))) with
                          | none => none
                          | some x27 => match lessWC ((dget y6 (dnat (IntKind.wrap .i64 (a1 - (1 : Int)))) (0 : Int)), (dget y6 (dnat (IntKind.wrap .i64 ((IntKind.wrap .i64 (a2 - (1 : Int))) - (IntKind.wrap .i64 (y4 - a1))))) (0 : Int)), ()) with
                            | none => none
                            | some (y28, _) => match (!y28) with
                              | true => match partEqWC (y6, a1, a2, (IntKind.wrap .i64 ((IntKind.wrap .i64 (a2 - (1 : Int))) - (IntKind.wrap .i64 (y4 - a1)))), ()) with
                                | none => none
                                | some (y29, y30, _) => some (.inl (y29, y30, a2, (IntKind.wrap .i64 (a3 - (1 : Int))), a4, a5, ()))
                              | false => match partWC (y6, a1, a2, (IntKind.wrap .i64 ((IntKind.wrap .i64 (a2 - (1 : Int))) - (IntKind.wrap .i64 (y4 - a1)))), ()) with
                                | none => none
                                | some (y31, y32, y33, _) => match quoR .i64 (IntKind.wrap .i64 (a2 - a1)) (8 : Int) with
                                  | none => none
                                  | some x34 => match (iltR (IntKind.wrap .i64 (y32 - a1)) (IntKind.wrap .i64 (a2 - y32))) with
                                    | true => match self (y31, a1, y32, (IntKind.wrap .i64 (a3 - (1 : Int))), ()) with
                                      | none => none
                                      | some (y35, _) => some (.inl (y35, (IntKind.wrap .i64 (y32 + (1 : Int))), a2, (IntKind.wrap .i64 (a3 - (1 : Int))), (ileR x34 (IntKind.wrap .i64 (y32 - a1))), y33, ()))
                                    | false => match self (y31, (IntKind.wrap .i64 (y32 + (1 : Int))), a2, (IntKind.wrap .i64 (a3 - (1 : Int))), ()) with
                                      | none => none
                                      | some (y36, _) => some (.inl (y36, a1, y32, (IntKind.wrap .i64 (a3 - (1 : Int))), (ileR x34 (IntKind.wrap .i64 (a2 - y32))), y33, ()))
                      | false => match partWC (y6, a1, a2, (IntKind.wrap .i64 ((IntKind.wrap .i64 (a2 - (1 : Int))) - (IntKind.wrap .i64 (y4 - a1)))), ()) with
                        | none => none
                        | some (y37, y38, y39, _) => match quoR .i64 (IntKind.wrap .i64 (a2 - a1)) (8 : Int) with
                          | none => none
                          | some x40 => match (iltR (IntKind.wrap .i64 (y38 - a1)) (IntKind.wrap .i64 (a2 - y38))) with
                            | true => match self (y37, a1, y38, (IntKind.wrap .i64 (a3 - (1 : Int))), ()) with
                              | none => none
                              | some (y41, _) => some (.inl (y41, (IntKind.wrap .i64 (y38 + (1 : Int))), a2, (IntKind.wrap .i64 (a3 - (1 : Int))), (ileR x40 (IntKind.wrap .i64 (y38 - a1))), y39, ()))
                            | false => match self (y37, (IntKind.wrap .i64 (y38 + (1 : Int))), a2, (IntKind.wrap .i64 (a3 - (1 : Int))), ()) with
                              | none => none
                              | some (y42, _) => some (.inl (y42, a1, y38, (IntKind.wrap .i64 (a3 - (1 : Int))), (ileR x40 (IntKind.wrap .i64 (a2 - y38))), y39, ()))
                  | false => match (iltR (0 : Int) a1) with
                    | true => match idxR y6 (IntKind.wrap .i64 (a1 - (1 : Int))) with
                      | none => none
                      | some x43 => match idxR y6 (IntKind.wrap .i64 ((IntKind.wrap .i64 (a2 - (1 : Int))) - (IntKind.wrap .i64 (y4 - a1)))) with
                        | none => none
                        | some x44 => match lessWC ((dget y6 (dnat (IntKind.wrap .i64 (a1 - (1 : Int)))) (0 : Int)), (dget y6 (dnat (IntKind.wrap .i64 ((IntKind.wrap .i64 (a2 - (1 : Int))) - (IntKind.wrap .i64 (y4 - a1))))) (0 : Int)), ()) with
                          | none => none
                          | some (y45, _) => match (!y45) with
                            | true => match partEqWC (y6, a1, a2, (IntKind.wrap .i64 ((IntKind.wrap .i64 (a2 - (1 : Int))) - (IntKind.wrap .i64 (y4 - a1)))), ()) with
                              | none => none
                              | some (y46, y47, _) => some (.inl (y46, y47, a2, (IntKind.wrap .i64 (a3 - (1 : Int))), a4, a5, ()))
                            | false => match partWC (y6, a1, a2, (IntKind.wrap .i64 ((IntKind.wrap .i64 (a2 - (1 : Int))) - (IntKind.wrap .i64 (y4 - a1)))), ()) with
                              | none => none
                              | some (y48, y49, y50, _) => match quoR .i64 (IntKind.wrap .i64 (a2 - a1)) (8 : Int) with
                                | none => none
                                | some x51 => match (iltR (IntKind.wrap .i64 (y49 - a1)) (IntKind.wrap .i64 (a2 - y49))) with
                                  | true => match self (y48, a1, y49, (IntKind.wrap .i64 (a3 - (1 : Int))), ()) with
                                    | none => none
                                    | some (y52, _) => some (.inl (y52, (IntKind.wrap .i64 (y49 + (1 : Int))), a2, (IntKind.wrap .i64 (a3 - (1 : Int))), (ileR x51 (IntKind.wrap .i64 (y49 - a1))), y50, ()))
                                  | false => match self (y48, (IntKind.wrap .i64 (y49 + (1 : Int))), a2, (IntKind.wrap .i64 (a3 - (1 : Int))), ()) with
                                    | none => none
                                    | some (y53, _) => some (.inl (y53, a1, y49, (IntKind.wrap .i64 (a3 - (1 : Int))), (ileR x51 (IntKind.wrap .i64 (a2 - y49))), y50, ()))
                    | false => match partWC (y6, a1, a2, (IntKind.wrap .i64 ((IntKind.wrap .i64 (a2 - (1 : Int))) - (IntKind.wrap .i64 (y4 - a1)))), ()) with
                      | none => none
                      | some (y54, y55, y56, _) => match quoR .i64 (IntKind.wrap .i64 (a2 - a1)) (8 : Int) with
                        | none => none
                        | some x57 => match (iltR (IntKind.wrap .i64 (y55 - a1)) (IntKind.wrap .i64 (a2 - y55))) with
                          | true => match self (y54, a1, y55, (IntKind.wrap .i64 (a3 - (1 : Int))), ()) with
                            | none => none
                            | some (y58, _) => some (.inl (y58, (IntKind.wrap .i64 (y55 + (1 : Int))), a2, (IntKind.wrap .i64 (a3 - (1 : Int))), (ileR x57 (IntKind.wrap .i64 (y55 - a1))), y56, ()))
                          | false => match self (y54, (IntKind.wrap .i64 (y55 + (1 : Int))), a2, (IntKind.wrap .i64 (a3 - (1 : Int))), ()) with
                            | none => none
                            | some (y59, _) => some (.inl (y59, a1, y55, (IntKind.wrap .i64 (a3 - (1 : Int))), (ileR x57 (IntKind.wrap .i64 (a2 - y55))), y56, ()))
                | false => match (iltR (0 : Int) a1) with
                  | true => match idxR y6 (IntKind.wrap .i64 (a1 - (1 : Int))) with
                    | none => none
                    | some x60 => match idxR y6 (IntKind.wrap .i64 ((IntKind.wrap .i64 (a2 - (1 : Int))) - (IntKind.wrap .i64 (y4 - a1)))) with
                      | none => none
                      | some x61 => match lessWC ((dget y6 (dnat (IntKind.wrap .i64 (a1 - (1 : Int)))) (0 : Int)), (dget y6 (dnat (IntKind.wrap .i64 ((IntKind.wrap .i64 (a2 - (1 : Int))) - (IntKind.wrap .i64 (y4 - a1))))) (0 : Int)), ()) with
                        | none => none
                        | some (y62, _) => match (!y62) with
                          | true => match partEqWC (y6, a1, a2, (IntKind.wrap .i64 ((IntKind.wrap .i64 (a2 - (1 : Int))) - (IntKind.wrap .i64 (y4 - a1)))), ()) with
                            | none => none
                            | some (y63, y64, _) => some (.inl (y63, y64, a2, (IntKind.wrap .i64 (a3 - (1 : Int))), a4, a5, ()))
                          | false => match partWC (y6, a1, a2, (IntKind.wrap .i64 ((IntKind.wrap .i64 (a2 - (1 : Int))) - (IntKind.wrap .i64 (y4 - a1)))), ()) with
                            | none => none
                            | some (y65, y66, y67, _) => match quoR .i64 (IntKind.wrap .i64 (a2 - a1)) (8 : Int) with
                              | none => none
                              | some x68 => match (iltR (IntKind.wrap .i64 (y66 - a1)) (IntKind.wrap .i64 (a2 - y66))) with
                                | true => match self (y65, a1, y66, (IntKind.wrap .i64 (a3 - (1 : Int))), ()) with
                                  | none => none
                                  | some (y69, _) => some (.inl (y69, (IntKind.wrap .i64 (y66 + (1 : Int))), a2, (IntKind.wrap .i64 (a3 - (1 : Int))), (ileR x68 (IntKind.wrap .i64 (y66 - a1))), y67, ()))
                                | false => match self (y65, (IntKind.wrap .i64 (y66 + (1 : Int))), a2, (IntKind.wrap .i64 (a3 - (1 : Int))), ()) with
                                  | none => none
                                  | some (y70, _) => some (.inl (y70, a1, y66, (IntKind.wrap .i64 (a3 - (1 : Int))), (ileR x68 (IntKind.wrap .i64 (a2 - y66))), y67, ()))
                  | false => match partWC (y6, a1, a2, (IntKind.wrap .i64 ((IntKind.wrap .i64 (a2 - (1 : Int))) - (IntKind.wrap .i64 (y4 - a1)))), ()) with
                    | none => none
                    | some (y71, y72, y73, _) => match quoR .i64 (IntKind.wrap .i64 (a2 - a1)) (8 : Int) with
                      | none => none
                      | some x74 => match (iltR (IntKind.wrap .i64 (y72 - a1)) (IntKind.wrap .i64 (a2 - y72))) with
                        | true => match self (y71, a1, y72, (IntKind.wrap .i64 (a3 - (1 : Int))), ()) with
                          | none => none
                          | some (y75, _) => some (.inl (y75, (IntKind.wrap .i64 (y72 + (1 : Int))), a2, (IntKind.wrap .i64 (a3 - (1 : Int))), (ileR x74 (IntKind.wrap .i64 (y72 - a1))), y73, ()))
                        | false => match self (y71, (IntKind.wrap .i64 (y72 + (1 : Int))), a2, (IntKind.wrap .i64 (a3 - (1 : Int))), ()) with
                          | none => none
                          | some (y76, _) => some (.inl (y76, a1, y72, (IntKind.wrap .i64 (a3 - (1 : Int))), (ileR x74 (IntKind.wrap .i64 (a2 - y72))), y73, ()))
            | false => match a4 with
              | true => match a5 with
                | true => match (ieqR y5 (1 : Int)) with
                  | true => match partInsWC (y3, a1, a2, ()) with
                    | none => none
                    | some (y77, y78, _) => match y78 with
                      | true => some (.inr (.inl (y77, ())))
                      | false => match (iltR (0 : Int) a1) with
                        | true => match idxR y77 (IntKind.wrap .i64 (a1 - (1 : Int))) with
                          | none => none
                          | some x79 => match idxR y77 y4 with
                            | none => none
                            | some x80 => match lessWC ((dget y77 (dnat (IntKind.wrap .i64 (a1 - (1 : Int)))) (0 : Int)), (dget y77 (dnat y4) (0 : Int)), ()) with
                              | none => none
                              | some (y81, _) => match (!y81) with
                                | true => match partEqWC (y77, a1, a2, y4, ()) with
                                  | none => none
                                  | some (y82, y83, _) => some (.inl (y82, y83, a2, (IntKind.wrap .i64 (a3 - (1 : Int))), a4, a5, ()))
                                | false => match partWC (y77, a1, a2, y4, ()) with
                                  | none => none
                                  | some (y84, y85, y86, _) => match quoR .i64 (IntKind.wrap .i64 (a2 - a1)) (8 : Int) with
                                    | none => none
                                    | some x87 => match (iltR (IntKind.wrap .i64 (y85 - a1)) (IntKind.wrap .i64 (a2 - y85))) with
                                      | true => match self (y84, a1, y85, (IntKind.wrap .i64 (a3 - (1 : Int))), ()) with
                                        | none => none
                                        | some (y88, _) => some (.inl (y88, (IntKind.wrap .i64 (y85 + (1 : Int))), a2, (IntKind.wrap .i64 (a3 - (1 : Int))), (ileR x87 (IntKind.wrap .i64 (y85 - a1))), y86, ()))
                                      | false => match self (y84, (IntKind.wrap .i64 (y85 + (1 : Int))), a2, (IntKind.wrap .i64 (a3 - (1 : Int))), ()) with
                                        | none => none
                                        | some (y89, _) => some (.inl (y89, a1, y85, (IntKind.wrap .i64 (a3 - (1 : Int))), (ileR x87 (IntKind.wrap .i64 (a2 - y85))), y86, ()))
                        | false => match partWC (y77, a1, a2, y4, ()) with
                          | none => none
                          | some (y90, y91, y92, _) => match quoR .i64 (IntKind.wrap .i64 (a2 - a1)) (8 : Int) with
                            | none => none
                            | some x93 => match (iltR (IntKind.wrap .i64 (y91 - a1)) (IntKind.wrap .i64 (a2 - y91))) with
                              | true => match self (y90, a1, y91, (IntKind.wrap .i64 (a3 - (1 : Int))), ()) with
                                | none => none
                                | some (y94, _) => some (.inl (y94, (IntKind.wrap .i64 (y91 + (1 : Int))), a2, (IntKind.wrap .i64 (a3 - (1 : Int))), (ileR x93 (IntKind.wrap .i64 (y91 - a1))), y92, ()))
                              | false => match self (y90, (IntKind.wrap .i64 (y91 + (1 : Int))), a2, (IntKind.wrap .i64 (a3 - (1 : Int))), ()) with
                                | none => none
                                | some (y95, _) => some (.inl (y95, a1, y91, (IntKind.wrap .i64 (a3 - (1 : Int))), (ileR x93 (IntKind.wrap .i64 (a2 - y91))), y92, ()))
                  | false => match (iltR (0 : Int) a1) with
                    | true => match idxR y3 (IntKind.wrap .i64 (a1 - (1 : Int))) with
                      | none => none
                      | some x96 => match idxR y3 y4 with
                        | none => none
                        | some x97 => match lessWC ((dget y3 (dnat (IntKind.wrap .i64 (a1 - (1 : Int)))) (0 : Int)), (dget y3 (dnat y4) (0 : Int)), ()) with
                          | none => none
                          | some (y98, _) => match (!y98) with
                            | true => match partEqWC (y3, a1, a2, y4, ()) with
                              | none => none
                              | some (y99, y100, _) => some (.inl (y99, y100, a2, (IntKind.wrap .i64 (a3 - (1 : Int))), a4, a5, ()))
                            | false => match partWC (y3, a1, a2, y4, ()) with
                              | none => none
                              | some (y101, y102, y103, _) => match quoR .i64 (IntKind.wrap .i64 (a2 - a1)) (8 : Int) with
                                | none => none
                                | some x104 => match (iltR (IntKind.wrap .i64 (y102 - a1)) (IntKind.wrap .i64 (a2 - y102))) with
                                  | true => match self (y101, a1, y102, (IntKind.wrap .i64 (a3 - (1 : Int))), ()) with
                                    | none => none
                                    | some (y105, _) => some (.inl (y105, (IntKind.wrap .i64 (y102 + (1 : Int))), a2, (IntKind.wrap .i64 (a3 - (1 : Int))), (ileR x104 (IntKind.wrap .i64 (y102 - a1))), y103, ()))
                                  | false => match self (y101, (IntKind.wrap .i64 (y102 + (1 : Int))), a2, (IntKind.wrap .i64 (a3 - (1 : Int))), ()) with
                                    | none => none
                                    | some (y106, _) => some (.inl (y106, a1, y102, (IntKind.wrap .i64 (a3 - (1 : Int))), (ileR x104 (IntKind.wrap .i64 (a2 - y102))), y103, ()))
                    | false => match partWC (y3, a1, a2, y4, ()) with
                      | none => none
                      | some (y107, y108, y109, _) => match quoR .i64 (IntKind.wrap .i64 (a2 - a1)) (8 : Int) with
                        | none => none
                        | some x110 => match (iltR (IntKind.wrap .i64 (y108 - a1)) (IntKind.wrap .i64 (a2 - y108))) with
                          | true => match self (y107, a1, y108, (IntKind.wrap .i64 (a3 - (1 : Int))), ()) with
                            | none => none
                            | some (y111, _) => some (.inl (y111, (IntKind.wrap .i64 (y108 + (1 : Int))), a2, (IntKind.wrap .i64 (a3 - (1 : Int))), (ileR x110 (IntKind.wrap .i64 (y108 - a1))), y109, ()))
                          | false => match self (y107, (IntKind.wrap .i64 (y108 + (1 : Int))), a2, (IntKind.wrap .i64 (a3 - (1 : Int))), ()) with
                            | none => none
                            | some (y112, _) => some (.inl (y112, a1, y108, (IntKind.wrap .i64 (a3 - (1 : Int))), (ileR x110 (IntKind.wrap .i64 (a2 - y108))), y109, ()))
                | false => match (iltR (0 : Int) a1) with
                  | true => match idxR y3 (IntKind.wrap .i64 (a1 - (1 : Int))) with
                    | none => none
                    | some x113 => match idxR y3 y4 with
                      | none => none
                      | some x114 => match lessWC ((dget y3 (dnat (IntKind.wrap .i64 (a1 - (1 : Int)))) (0 : Int)), (dget y3 (dnat y4) (0 : Int)), ()) with
                        | none => none
                        | some (y115, _) => match (!y115) with
                          | true => match partEqWC (y3, a1, a2, y4, ()) with
                            | none => none
                            | some (y116, y117, _) => some (.inl (y116, y117, a2, (IntKind.wrap .i64 (a3 - (1 : Int))), a4, a5, ()))
                          | false => match partWC (y3, a1, a2, y4, ()) with
                            | none => none
                            | some (y118, y119, y120, _) => match quoR .i64 (IntKind.wrap .i64 (a2 - a1)) (8 : Int) with
                              | none => none
                              | some x121 => match (iltR (IntKind.wrap .i64 (y119 - a1)) (IntKind.wrap .i64 (a2 - y119))) with
                                | true => match self (y118, a1, y119, (IntKind.wrap .i64 (a3 - (1 : Int))), ()) with
                                  | none => none
                                  | some (y122, _) => some (.inl (y122, (IntKind.wrap .i64 (y119 + (1 : Int))), a2, (IntKind.wrap .i64 (a3 - (1 : Int))), (ileR x121 (IntKind.wrap .i64 (y119 - a1))), y120, ()))
                                | false => match self (y118, (IntKind.wrap .i64 (y119 + (1 : Int))), a2, (IntKind.wrap .i64 (a3 - (1 : Int))), ()) with
                                  | none => none
                                  | some (y123, _) => some (.inl (y123, a1, y119, (IntKind.wrap .i64 (a3 - (1 : Int))), (ileR x121 (IntKind.wrap .i64 (a2 - y119))), y120, ()))
                  | false => match partWC (y3, a1, a2, y4, ()) with
                    | none => none
                    | some (y124, y125, y126, _) => match quoR .i64 (IntKind.wrap .i64 (a2 - a1)) (8 : Int) with
                      | none => none
                      | some x127 => match (iltR (IntKind.wrap .i64 (y125 - a1)) (IntKind.wrap .i64 (a2 - y125))) with
                        | true => match self (y124, a1, y125, (IntKind.wrap .i64 (a3 - (1 : Int))), ()) with
                          | none => none
                          | some (y128, _) => some (.inl (y128, (IntKind.wrap .i64 (y125 + (1 : Int))), a2, (IntKind.wrap .i64 (a3 - (1 : Int))), (ileR x127 (IntKind.wrap .i64 (y125 - a1))), y126, ()))
                        | false => match self (y124, (IntKind.wrap .i64 (y125 + (1 : Int))), a2, (IntKind.wrap .i64 (a3 - (1 : Int))), ()) with
                          | none => none
                          | some (y129, _) => some (.inl (y129, a1, y125, (IntKind.wrap .i64 (a3 - (1 : Int))), (ileR x127 (IntKind.wrap .i64 (a2 - y125))), y126, ()))
              | false => match (iltR (0 : Int) a1) with
                | true => match idxR y3 (IntKind.wrap .i64 (a1 - (1 : Int))) with
                  | none => none
                  | some x130 => match idxR y3 y4 with
                    | none => none
                    | some x131 => match lessWC ((dget y3 (dnat (IntKind.wrap .i64 (a1 - (1 : Int)))) (0 : Int)), (dget y3 (dnat y4) (0 : Int)), ()) with
                      | none => none
                      | some (y132, _) => match (!y132) with
                        | true => match partEqWC (y3, a1, a2, y4, ()) with
                          | none => none
                          | some (y133, y134, _) => some (.inl (y133, y134, a2, (IntKind.wrap .i64 (a3 - (1 : Int))), a4, a5, ()))
                        | false => match partWC (y3, a1, a2, y4, ()) with
                          | none => none
                          | some (y135, y136, y137, _) => match quoR .i64 (IntKind.wrap .i64 (a2 - a1)) (8 : Int) with
                            | none => none
                            | some x138 => match (iltR (IntKind.wrap .i64 (y136 - a1)) (IntKind.wrap .i64 (a2 - y136))) with
                              | true => match self (y135, a1, y136, (IntKind.wrap .i64 (a3 - (1 : Int))), ()) with
                                | none => none
                                | some (y139, _) => some (.inl (y139, (IntKind.wrap .i64 (y136 + (1 : Int))), a2, (IntKind.wrap .i64 (a3 - (1 : Int))), (ileR x138 (IntKind.wrap .i64 (y136 - a1))), y137, ()))
                              | false => match self (y135, (IntKind.wrap .i64 (y136 + (1 : Int))), a2, (IntKind.wrap .i64 (a3 - (1 : Int))), ()) with
                                | none => none
                                | some (y140, _) => some (.inl (y140, a1, y136, (IntKind.wrap .i64 (a3 - (1 : Int))), (ileR x138 (IntKind.wrap .i64 (a2 - y136))), y137, ()))
                | false => match partWC (y3, a1, a2, y4, ()) with
                  | none => none
                  | some (y141, y142, y143, _) => match quoR .i64 (IntKind.wrap .i64 (a2 - a1)) (8 : Int) with
                    | none => none
                    | some x144 => match (iltR (IntKind.wrap .i64 (y142 - a1)) (IntKind.wrap .i64 (a2 - y142))) with
                      | true => match self (y141, a1, y142, (IntKind.wrap .i64 (a3 - (1 : Int))), ()) with
                        | none => none
                        | some (y145, _) => some (.inl (y145, (IntKind.wrap .i64 (y142 + (1 : Int))), a2, (IntKind.wrap .i64 (a3 - (1 : Int))), (ileR x144 (IntKind.wrap .i64 (y142 - a1))), y143, ()))
                      | false => match self (y141, (IntKind.wrap .i64 (y142 + (1 : Int))), a2, (IntKind.wrap .i64 (a3 - (1 : Int))), ()) with
                        | none => none
                        | some (y146, _) => some (.inl (y146, a1, y142, (IntKind.wrap .i64 (a3 - (1 : Int))), (ileR x144 (IntKind.wrap .i64 (a2 - y142))), y143, ()))
      | false => match pivotWC (a0, a1, a2, ()) with
        | none => none
        | some (y147, y148, y149, _) => match (ieqR y149 (2 : Int)) with
          | true => match revWC (y147, a1, a2, ()) with
            | none => none
            | some (y150, _) => match a4 with
              | true => match a5 with
                | true => match (ieqR (1 : Int) (1 : Int)) with
                  | true => match partInsWC (y150, a1, a2, ()) with
                    | none => none
                    | some (y151, y152, _) => match y152 with
                      | true => some (.inr (.inl (y151, ())))
                      | false => match (iltR (0 : Int) a1) with
                        | true => match idxR y151 (IntKind.wrap .i64 (a1 - (1 : Int))) with
                          | none => none
                          | some x153 => match idxR y151 (IntKind.wrap .i64 ((IntKind.wrap .i64 (a2 - (1 : Int))) - (IntKind.wrap .i64 (y148 - a1)))) with
                            | none => none
                            | some x154 => match lessWC ((dget y151 (dnat (IntKind.wrap .i64 (a1 - (1 : Int)))) (0 : Int)), (dget y151 (dnat (IntKind.wrap .i64 ((IntKind.wrap .i64 (a2 - (1 : Int))) - (IntKind.wrap .i64 (y148 - a1))))) (0 : Int)), ()) with
                              | none => none
                              | some (y155, _) => match (!y155) with
                                | true => match partEqWC (y151, a1, a2, (IntKind.wrap .i64 ((IntKind.wrap .i64 (a2 - (1 : Int))) - (IntKind.wrap .i64 (y148 - a1)))), ()) with
                                  | none => none
                                  | some (y156, y157, _) => some (.inl (y156, y157, a2, a3, a4, a5, ()))
                                | false => match partWC (y151, a1, a2, (IntKind.wrap .i64 ((IntKind.wrap .i64 (a2 - (1 : Int))) - (IntKind.wrap .i64 (y148 - a1)))), ()) with
                                  | none => none
                                  | some (y158, y159, y160, _) => match quoR .i64 (IntKind.wrap .i64 (a2 - a1)) (8 : Int) with
                                    | none => none
                                    | some x161 => match (iltR (IntKind.wrap .i64 (y159 - a1)) (IntKind.wrap .i64 (a2 - y159))) with
                                      | true => match self (y158, a1, y159, a3, ()) with
                                        | none => none
                                        | some (y162, _) => some (.inl (y162, (IntKind.wrap .i64 (y159 + (1 : Int))), a2, a3, (ileR x161 (IntKind.wrap .i64 (y159 - a1))), y160, ()))
                                      | false => match self (y158, (IntKind.wrap .i64 (y159 + (1 : Int))), a2, a3, ()) with
                                        | none => none
                                        | some (y163, _) => some (.inl (y163, a1, y159, a3, (ileR x161 (IntKind.wrap .i64 (a2 - y159))), y160, ()))
                        | false => match partWC (y151, a1, a2, (IntKind.wrap .i64 ((IntKind.wrap .i64 (a2 - (1 : Int))) - (IntKind.wrap .i64 (y148 - a1)))), ()) with
                          | none => none
                          | some (y164, y165, y166, _) => match quoR .i64 (IntKind.wrap .i64 (a2 - a1)) (8 : Int) with
                            | none => none
                            | some x167 => match (iltR (IntKind.wrap .i64 (y165 - a1)) (IntKind.wrap .i64 (a2 - y165))) with
                              | true => match self (y164, a1, y165, a3, ()) with
                                | none => none
                                | some (y168, _) => some (.inl (y168, (IntKind.wrap .i64 (y165 + (1 : Int))), a2, a3, (ileR x167 (IntKind.wrap .i64 (y165 - a1))), y166, ()))
                              | false => match self (y164, (IntKind.wrap .i64 (y165 + (1 : Int))), a2, a3, ()) with
                                | none => none
                                | some (y169, _) => some (.inl (y169, a1, y165, a3, (ileR x167 (IntKind.wrap .i64 (a2 - y165))), y166, ()))
                  | false => match (iltR (0 : Int) a1) with
                    | true => match idxR y150 (IntKind.wrap .i64 (a1 - (1 : Int))) with
                      | none => none
                      | some x170 => match idxR y150 (IntKind.wrap .i64 ((IntKind.wrap .i64 (a2 - (1 : Int))) - (IntKind.wrap .i64 (y148 - a1)))) with
                        | none => none
                        | some x171 => match lessWC ((dget y150 (dnat (IntKind.wrap .i64 (a1 - (1 : Int)))) (0 : Int)), (dget y150 (dnat (IntKind.wrap .i64 ((IntKind.wrap .i64 (a2 - (1 : Int))) - (IntKind.wrap .i64 (y148 - a1))))) (0 : Int)), ()) with
                          | none => none
                          | some (y172, _) => match (!y172) with
                            | true => match partEqWC (y150, a1, a2, (IntKind.wrap .i64 ((IntKind.wrap .i64 (a2 - (1 : Int))) - (IntKind.wrap .i64 (y148 - a1)))), ()) with
                              | none => none
                              | some (y173, y174, _) => some (.inl (y173, y174, a2, a3, a4, a5, ()))
                            | false => match partWC (y150, a1, a2, (IntKind.wrap .i64 ((IntKind.wrap .i64 (a2 - (1 : Int))) - (IntKind.wrap .i64 (y148 - a1)))), ()) with
                              | none => none
                              | some (y175, y176, y177, _) => match quoR .i64 (IntKind.wrap .i64 (a2 - a1)) (8 : Int) with
                                | none => none
                                | some x178 => match (iltR (IntKind.wrap .i64 (y176 - a1)) (IntKind.wrap .i64 (a2 - y176))) with
                                  | true => match self (y175, a1, y176, a3, ()) with
                                    | none => none
                                    | some (y179, _) => some (.inl (y179, (IntKind.wrap .i64 (y176 + (1 : Int))), a2, a3, (ileR x178 (IntKind.wrap .i64 (y176 - a1))), y177, ()))
                                  | false => match self (y175, (IntKind.wrap .i64 (y176 + (1 : Int))), a2, a3, ()) with
                                    | none => none
                                    | some (y180, _) => some (.inl (y180, a1, y176, a3, (ileR x178 (IntKind.wrap .i64 (a2 - y176))), y177, ()))
                    | false => match partWC (y150, a1, a2, (IntKind.wrap .i64 ((IntKind.wrap .i64 (a2 - (1 : Int))) - (IntKind.wrap .i64 (y148 - a1)))), ()) with
                      | none => none
                      | some (y181, y182, y183, _) => match quoR .i64 (IntKind.wrap .i64 (a2 - a1)) (8 : Int) with
                        | none => none
                        | some x184 => match (iltR (IntKind.wrap .i64 (y182 - a1)) (IntKind.wrap .i64 (a2 - y182))) with
                          | true => match self (y181, a1, y182, a3, ()) with
                            | none => none
                            | some (y185, _) => some (.inl (y185, (IntKind.wrap .i64 (y182 + (1 : Int))), a2, a3, (ileR x184 (IntKind.wrap .i64 (y182 - a1))), y183, ()))
                          | false => match self (y181, (IntKind.wrap .i64 (y182 + (1 : Int))), a2, a3, ()) with
                            | none => none
                            | some (y186, _) => some (.inl (y186, a1, y182, a3, (ileR x184 (IntKind.wrap .i64 (a2 - y182))), y183, ()))
                | false => match (iltR (0 : Int) a1) with
                  | true => match idxR y150 (IntKind.wrap .i64 (a1 - (1 : Int))) with
                    | none => none
                    | some x187 => match idxR y150 (IntKind.wrap .i64 ((IntKind.wrap .i64 (a2 - (1 : Int))) - (IntKind.wrap .i64 (y148 - a1)))) with
                      | none => none
                      | some x188 => match lessWC ((dget y150 (dnat (IntKind.wrap .i64 (a1 - (1 : Int)))) (0 : Int)), (dget y150 (dnat (IntKind.wrap .i64 ((IntKind.wrap .i64 (a2 - (1 : Int))) - (IntKind.wrap .i64 (y148 - a1))))) (0 : Int)), ()) with
                        | none => none
                        | some (y189, _) => match (!y189) with
                          | true => match partEqWC (y150, a1, a2, (IntKind.wrap .i64 ((IntKind.wrap .i64 (a2 - (1 : Int))) - (IntKind.wrap .i64 (y148 - a1)))), ()) with
                            | none => none
                            | some (y190, y191, _) => some (.inl (y190, y191, a2, a3, a4, a5, ()))
                          | false => match partWC (y150, a1, a2, (IntKind.wrap .i64 ((IntKind.wrap .i64 (a2 - (1 : Int))) - (IntKind.wrap .i64 (y148 - a1)))), ()) with
                            | none => none
                            | some (y192, y193, y194, _) => match quoR .i64 (IntKind.wrap .i64 (a2 - a1)) (8 : Int) with
                              | none => none
                              | some x195 => match (iltR (IntKind.wrap .i64 (y193 - a1)) (IntKind.wrap .i64 (a2 - y193))) with
                                | true => match self (y192, a1, y193, a3, ()) with
                                  | none => none
                                  | some (y196, _) => some (.inl (y196, (IntKind.wrap .i64 (y193 + (1 : Int))), a2, a3, (ileR x195 (IntKind.wrap .i64 (y193 - a1))), y194, ()))
                                | false => match self (y192, (IntKind.wrap .i64 (y193 + (1 : Int))), a2, a3, ()) with
                                  | none => none
                                  | some (y197, _) => some (.inl (y197, a1, y193, a3, (ileR x195 (IntKind.wrap .i64 (a2 - y193))), y194, ()))
                  | false => match partWC (y150, a1, a2, (IntKind.wrap .i64 ((IntKind.wrap .i64 (a2 - (1 : Int))) - (IntKind.wrap .i64 (y148 - a1)))), ()) with
                    | none => none
                    | some (y198, y199, y200, _) => match quoR .i64 (IntKind.wrap .i64 (a2 - a1)) (8 : Int) with
                      | none => none
                      | some x201 => match (iltR (IntKind.wrap .i64 (y199 - a1)) (IntKind.wrap .i64 (a2 - y199))) with
                        | true => match self (y198, a1, y199, a3, ()) with
                          | none => none
                          | some (y202, _) => some (.inl (y202, (IntKind.wrap .i64 (y199 + (1 : Int))), a2, a3, (ileR x201 (IntKind.wrap .i64 (y199 - a1))), y200, ()))
                        | false => match self (y198, (IntKind.wrap .i64 (y199 + (1 : Int))), a2, a3, ()) with
                          | none => none
                          | some (y203, _) => some (.inl (y203, a1, y199, a3, (ileR x201 (IntKind.wrap .i64 (a2 - y199))), y200, ()))
              | false => match (iltR (0 : Int) a1) with
                | true => match idxR y150 (IntKind.wrap .i64 (a1 - (1 : Int))) with
                  | none => none
                  | some x204 => match idxR y150 (IntKind.wrap .i64 ((IntKind.wrap .i64 (a2 - (1 : Int))) - (IntKind.wrap .i64 (y148 - a1)))) with
                    | none => none
                    | some x205 => match lessWC ((dget y150 (dnat (IntKind.wrap .i64 (a1 - (1 : Int)))) (0 : Int)), (dget y150 (dnat (IntKind.wrap .i64 ((IntKind.wrap .i64 (a2 - (1 : Int))) - (IntKind.wrap .i64 (y148 - a1))))) (0 : Int)), ()) with
                      | none => none
                      | some (y206, _) => match (!y206) with
                        | true => match partEqWC (y150, a1, a2, (IntKind.wrap .i64 ((IntKind.wrap .i64 (a2 - (1 : Int))) - (IntKind.wrap .i64 (y148 - a1)))), ()) with
                          | none => none
                          | some (y207, y208, _) => some (.inl (y207, y208, a2, a3, a4, a5, ()))
                        | false => match partWC (y150, a1, a2, (IntKind.wrap .i64 ((IntKind.wrap .i64 (a2 - (1 : Int))) - (IntKind.wrap .i64 (y148 - a1)))), ()) with
                          | none => none
                          | some (y209, y210, y211, _) => match quoR .i64 (IntKind.wrap .i64 (a2 - a1)) (8 : Int) with
                            | none => none
                            | some x212 => match (iltR (IntKind.wrap .i64 (y210 - a1)) (IntKind.wrap .i64 (a2 - y210))) with
                              | true => match self (y209, a1, y210, a3, ()) with
                                | none => none
                                | some (y213, _) => some (.inl (y213, (IntKind.wrap .i64 (y210 + (1 : Int))), a2, a3, (ileR x212 (IntKind.wrap .i64 (y210 - a1))), y211, ()))
                              | false => match self (y209, (IntKind.wrap .i64 (y210 + (1 : Int))), a2, a3, ()) with
                                | none => none
                                | some (y214, _) => some (.inl (y214, a1, y210, a3, (ileR x212 (IntKind.wrap .i64 (a2 - y210))), y211, ()))
                | false => match partWC (y150, a1, a2, (IntKind.wrap .i64 ((IntKind.wrap .i64 (a2 - (1 : Int))) - (IntKind.wrap .i64 (y148 - a1)))), ()) with
                  | none => none
                  | some (y215, y216, y217, _) => match quoR .i64 (IntKind.wrap .i64 (a2 - a1)) (8 : Int) with
                    | none => none
                    | some x218 => match (iltR (IntKind.wrap .i64 (y216 - a1)) (IntKind.wrap .i64 (a2 - y216))) with
                      | true => match self (y215, a1, y216, a3, ()) with
                        | none => none
                        | some (y219, _) => some (.inl (y219, (IntKind.wrap .i64 (y216 + (1 : Int))), a2, a3, (ileR x218 (IntKind.wrap .i64 (y216 - a1))), y217, ()))
                      | false => match self (y215, (IntKind.wrap .i64 (y216 + (1 : Int))), a2, a3, ()) with
                        | none => none
                        | some (y220, _) => some (.inl (y220, a1, y216, a3, (ileR x218 (IntKind.wrap .i64 (a2 - y216))), y217, ()))
          | false => match a4 with
            | true => match a5 with
              | true => match (ieqR y149 (1 : Int)) with
                | true => match partInsWC (y147, a1, a2, ()) with
                  | none => none
                  | some (y221, y222, _) => match y222 with
                    | true => some (.inr (.inl (y221, ())))
                    | false => match (iltR (0 : Int) a1) with
                      | true => match idxR y221 (IntKind.wrap .i64 (a1 - (1 : Int))) with
                        | none => none
                        | some x223 => match idxR y221 y148 with
                          | none => none
                          | some x224 => match lessWC ((dget y221 (dnat (IntKind.wrap .i64 (a1 - (1 : Int)))) (0 : Int)), (dget y221 (dnat y148) (0 : Int)), ()) with
                            | none => none
                            | some (y225, _) => match (!y225) with
                              | true => match partEqWC (y221, a1, a2, y148, ()) with
                                | none => none
                                | some (y226, y227, _) => some (.inl (y226, y227, a2, a3, a4, a5, ()))
                              | false => match partWC (y221, a1, a2, y148, ()) with
                                | none => none
                                | some (y228, y229, y230, _) => match quoR .i64 (IntKind.wrap .i64 (a2 - a1)) (8 : Int) with
                                  | none => none
                                  | some x231 => match (iltR (IntKind.wrap .i64 (y229 - a1)) (IntKind.wrap .i64 (a2 - y229))) with
                                    | true => match self (y228, a1, y229, a3, ()) with
                                      | none => none
                                      | some (y232, _) => some (.inl (y232, (IntKind.wrap .i64 (y229 + (1 : Int))), a2, a3, (ileR x231 (IntKind.wrap .i64 (y229 - a1))), y230, ()))
                                    | false => match self (y228, (IntKind.wrap .i64 (y229 + (1 : Int))), a2, a3, ()) with
                                      | none => none
                                      | some (y233, _) => some (.inl (y233, a1, y229, a3, (ileR x231 (IntKind.wrap .i64 (a2 - y229))), y230, ()))
                      | false => match partWC (y221, a1, a2, y148, ()) with
                        | none => none
                        | some (y234, y235, y236, _) => match quoR .i64 (IntKind.wrap .i64 (a2 - a1)) (8 : Int) with
                          | none => none
                          | some x237 => match (iltR (IntKind.wrap .i64 (y235 - a1)) (IntKind.wrap .i64 (a2 - y235))) with
                            | true => match self (y234, a1, y235, a3, ()) with
                              | none => none
                              | some (y238, _) => some (.inl (y238, (IntKind.wrap .i64 (y235 + (1 : Int))), a2, a3, (ileR x237 (IntKind.wrap .i64 (y235 - a1))), y236, ()))
                            | false => match self (y234, (IntKind.wrap .i64 (y235 + (1 : Int))), a2, a3, ()) with
                              | none => none
                              | some (y239, _) => some (.inl (y239, a1, y235, a3, (ileR x237 (IntKind.wrap .i64 (a2 - y235))), y236, ()))
                | false => match (iltR (0 : Int) a1) with
                  | true => match idxR y147 (IntKind.wrap .i64 (a1 - (1 : Int))) with
                    | none => none
                    | some x240 => match idxR y147 y148 with
                      | none => none
                      | some x241 => match lessWC ((dget y147 (dnat (IntKind.wrap .i64 (a1 - (1 : Int)))) (0 : Int)), (dget y147 (dnat y148) (0 : Int)), ()) with
                        | none => none
                        | some (y242, _) => match (!y242) with
                          | true => match partEqWC (y147, a1, a2, y148, ()) with
                            | none => none
                            | some (y243, y244, _) => some (.inl (y243, y244, a2, a3, a4, a5, ()))
                          | false => match partWC (y147, a1, a2, y148, ()) with
                            | none => none
                            | some (y245, y246, y247, _) => match quoR .i64 (IntKind.wrap .i64 (a2 - a1)) (8 : Int) with
                              | none => none
                              | some x248 => match (iltR (IntKind.wrap .i64 (y246 - a1)) (IntKind.wrap .i64 (a2 - y246))) with
                                | true => match self (y245, a1, y246, a3, ()) with
                                  | none => none
                                  | some (y249, _) => some (.inl (y249, (IntKind.wrap .i64 (y246 + (1 : Int))), a2, a3, (ileR x248 (IntKind.wrap .i64 (y246 - a1))), y247, ()))
                                | false => match self (y245, (IntKind.wrap .i64 (y246 + (1 : Int))), a2, a3, ()) with
                                  | none => none
                                  | some (y250, _) => some (.inl (y250, a1, y246, a3, (ileR x248 (IntKind.wrap .i64 (a2 - y246))), y247, ()))
                  | false => match partWC (y147, a1, a2, y148, ()) with
                    | none => none
                    | some (y251, y252, y253, _) => match quoR .i64 (IntKind.wrap .i64 (a2 - a1)) (8 : Int) with
                      | none => none
                      | some x254 => match (iltR (IntKind.wrap .i64 (y252 - a1)) (IntKind.wrap .i64 (a2 - y252))) with
                        | true => match self (y251, a1, y252, a3, ()) with
                          | none => none
                          | some (y255, _) => some (.inl (y255, (IntKind.wrap .i64 (y252 + (1 : Int))), a2, a3, (ileR x254 (IntKind.wrap .i64 (y252 - a1))), y253, ()))
                        | false => match self (y251, (IntKind.wrap .i64 (y252 + (1 : Int))), a2, a3, ()) with
                          | none => none
                          | some (y256, _) => some (.inl (y256, a1, y252, a3, (ileR x254 (IntKind.wrap .i64 (a2 - y252))), y253, ()))
              | false => match (iltR (0 : Int) a1) with
                | true => match idxR y147 (IntKind.wrap .i64 (a1 - (1 : Int))) with
                  | none => none
                  | some x257 => match idxR y147 y148 with
                    | none => none
                    | some x258 => match lessWC ((dget y147 (dnat (IntKind.wrap .i64 (a1 - (1 : Int)))) (0 : Int)), (dget y147 (dnat y148) (0 : Int)), ()) with
                      | none => none
                      | some (y259, _) => match (!y259) with
                        | true => match partEqWC (y147, a1, a2, y148, ()) with
                          | none => none
                          | some (y260, y261, _) => some (.inl (y260, y261, a2, a3, a4, a5, ()))
                        | false => match partWC (y147, a1, a2, y148, ()) with
                          | none => none
                          | some (y262, y263, y264, _) => match quoR .i64 (IntKind.wrap .i64 (a2 - a1)) (8 : Int) with
                            | none => none
                            | some x265 => match (iltR (IntKind.wrap .i64 (y263 - a1)) (IntKind.wrap .i64 (a2 - y263))) with
                              | true => match self (y262, a1, y263, a3, ()) with
                                | none => none
                                | some (y266, _) => some (.inl (y266, (IntKind.wrap .i64 (y263 + (1 : Int))), a2, a3, (ileR x265 (IntKind.wrap .i64 (y263 - a1))), y264, ()))
                              | false => match self (y262, (IntKind.wrap .i64 (y263 + (1 : Int))), a2, a3, ()) with
                                | none => none
                                | some (y267, _) => some (.inl (y267, a1, y263, a3, (ileR x265 (IntKind.wrap .i64 (a2 - y263))), y264, ()))
                | false => match partWC (y147, a1, a2, y148, ()) with
                  | none => none
                  | some (y268, y269, y270, _) => match quoR .i64 (IntKind.wrap .i64 (a2 - a1)) (8 : Int) with
                    | none => none
                    | some x271 => match (iltR (IntKind.wrap .i64 (y269 - a1)) (IntKind.wrap .i64 (a2 - y269))) with
                      | true => match self (y268, a1, y269, a3, ()) with
                        | none => none
                        | some (y272, _) => some (.inl (y272, (IntKind.wrap .i64 (y269 + (1 : Int))), a2, a3, (ileR x271 (IntKind.wrap .i64 (y269 - a1))), y270, ()))
                      | false => match self (y268, (IntKind.wrap .i64 (y269 + (1 : Int))), a2, a3, ()) with
                        | none => none
                        | some (y273, _) => some (.inl (y273, a1, y269, a3, (ileR x271 (IntKind.wrap .i64 (a2 - y269))), y270, ()))
            | false => match (iltR (0 : Int) a1) with
              | true => match idxR y147 (IntKind.wrap .i64 (a1 - (1 : Int))) with
                | none => none
                | some x274 => match idxR y147 y148 with
                  | none => none
                  | some x275 => match lessWC ((dget y147 (dnat (IntKind.wrap .i64 (a1 - (1 : Int)))) (0 : Int)), (dget y147 (dnat y148) (0 : Int)), ()) with
                    | none => none
                    | some (y276, _) => match (!y276) with
                      | true => match partEqWC (y147, a1, a2, y148, ()) with
                        | none => none
                        | some (y277, y278, _) => some (.inl (y277, y278, a2, a3, a4, a5, ()))
                      | false => match partWC (y147, a1, a2, y148, ()) with
                        | none => none
                        | some (y279, y280, y281, _) => match quoR .i64 (IntKind.wrap .i64 (a2 - a1)) (8 : Int) with
                          | none => none
                          | some x282 => match (iltR (IntKind.wrap .i64 (y280 - a1)) (IntKind.wrap .i64 (a2 - y280))) with
                            | true => match self (y279, a1, y280, a3, ()) with
                              | none => none
                              | some (y283, _) => some (.inl (y283, (IntKind.wrap .i64 (y280 + (1 : Int))), a2, a3, (ileR x282 (IntKind.wrap .i64 (y280 - a1))), y281, ()))
                            | false => match self (y279, (IntKind.wrap .i64 (y280 + (1 : Int))), a2, a3, ()) with
                              | none => none
                              | some (y284, _) => some (.inl (y284, a1, y280, a3, (ileR x282 (IntKind.wrap .i64 (a2 - y280))), y281, ()))
              | false => match partWC (y147, a1, a2, y148, ()) with
                | none => none
                | some (y285, y286, y287, _) => match quoR .i64 (IntKind.wrap .i64 (a2 - a1)) (8 : Int) with
                  | none => none
                  | some x288 => match (iltR (IntKind.wrap .i64 (y286 - a1)) (IntKind.wrap .i64 (a2 - y286))) with
                    | true => match self (y285, a1, y286, a3, ()) with
                      | none => none
                      | some (y289, _) => some (.inl (y289, (IntKind.wrap .i64 (y286 + (1 : Int))), a2, a3, (ileR x288 (IntKind.wrap .i64 (y286 - a1))), y287, ()))
                    | false => match self (y285, (IntKind.wrap .i64 (y286 + (1 : Int))), a2, a3, ()) with
                      | none => none
                      | some (y290, _) => some (.inl (y290, a1, y286, a3, (ileR x288 (IntKind.wrap .i64 (a2 - y286))), y287, ()))

theorem pdqW_s0_ceq (self) : pdqW_s0 self = pdqW_s0C self := by
  funext v
  simp only [pdqW_s0, pdqW_s0C, idx_eq, quo_eq, ilt_eqR, ile_eqR, ieq_eqR, lessW_ceq, insW_ceq, heapW_ceq, breakW_ceq, pivotW_ceq, revW_ceq, partInsW_ceq, partEqW_ceq, partW_ceq] <;> rfl

def pdqW_dC (self : (List Int × Int × Int × Int × Unit) → Option ((List Int × Unit))) : (List Int × Int × Int × Int × Unit) → Option ((List Int × Unit)) := fun (a0, a1, a2, a3, _) =>
  match iterO (pdqW_s0C self) many (a0, a1, a2, a3, true, true, ()) with
  | none => none
  | some r => match r with
    | .inl (o0, _) => some (o0, ())
    | .inr _ => none

theorem pdqW_d_ceq (self) : pdqW_d self = pdqW_dC self := by
  funext v
  simp only [pdqW_d, pdqW_dC, iterL_eq, pdqW_s0_ceq] <;> rfl

def pdqW_fC : Nat → (List Int × Int × Int × Int × Unit) → Option ((List Int × Unit))
  | 0, _ => none
  | n + 1, v => pdqW_dC (pdqW_fC n) v

theorem pdqW_f_ceq : ∀ n, pdqW_f n = pdqW_fC n := by
  intro n
  induction n with
  | zero => rfl
  | succ n ih => funext v; show pdqW_d (pdqW_f n) v = pdqW_dC (pdqW_fC n) v; rw [pdqW_d_ceq, ih]

def pdqWC (v : denL (leaves pdqW_i)) : Option (denL (leaves pdqW_o)) := pdqW_fC 100 v

theorem pdqW_ceq : pdqW = pdqWC := by
  funext v
  rw [pdqW_eq, pdqW_f_ceq]; rfl


-- slices.Sort[[]uint32,uint32]
abbrev sortW_i : Items := [(.tmp 0, .own 34 (.int .u32))]
abbrev sortW_o : Items := [(.obj 0, .own 34 (.int .u32))]
abbrev sortW_r : List RS := []
def sortW_d : (List Int × Unit) → Option ((List Int × Unit)) := fun (a0, _) =>
  match bitsLen ((IntKind.wrap .u64 (dlen a0)), ()) with
  | none => none
  | some (y0, _) => match pdqW (a0, (0 : Int), (dlen a0), y0, ()) with
    | none => none
    | some (y1, _) => some (y1, ())
def sortW (v : (List Int × Unit)) : Option ((List Int × Unit)) := lock (sortW_d v)
theorem sortW_eq (v : (List Int × Unit)) : sortW v = sortW_d v := lock_eq _
def sortW_dC : (List Int × Unit) → Option ((List Int × Unit)) := fun (a0, _) =>
  match bitsLenC ((IntKind.wrap .u64 (dlen a0)), ()) with
  | none => none
  | some (y0, _) => match pdqWC (a0, (0 : Int), (dlen a0), y0, ()) with
    | none => none
    | some (y1, _) => some (y1, ())

theorem sortW_d_ceq : sortW_d = sortW_dC := by
  funext v
  simp only [sortW_d, sortW_dC, bitsLen_ceq, pdqW_ceq] <;> rfl

def sortWC (v : denL (leaves sortW_i)) : Option (denL (leaves sortW_o)) := sortW_dC v

theorem sortW_ceq : sortW = sortWC := by
  funext v
  rw [sortW_eq, sortW_d_ceq]; rfl


-- archipelago/table.rising
abbrev rising_i : Items := [(.tmp 0, .dat (.slice (.int .u32)))]
abbrev rising_o : Items := [(.tmp 0, .own 34 (.int .u32))]
abbrev rising_r : List RS := [.one]
def rising_d : (List Int × Unit) → Option ((List Int × Unit)) := fun (a0, _) =>
  match cloneF a0 with
  | none => none
  | some x0 => match sortW (x0, ()) with
    | none => none
    | some (y1, _) => match compactW (y1, ()) with
      | none => none
      | some (y2, y3, _) => some ((dtake (dnat y3) y2), ())
def rising (v : (List Int × Unit)) : Option ((List Int × Unit)) := lock (rising_d v)
theorem rising_eq (v : (List Int × Unit)) : rising v = rising_d v := lock_eq _
def rising_dC : (List Int × Unit) → Option ((List Int × Unit)) := fun (a0, _) =>
  match cloneR a0 with
  | none => none
  | some x0 => match sortWC (x0, ()) with
    | none => none
    | some (y1, _) => match compactWC (y1, ()) with
      | none => none
      | some (y2, y3, _) => some ((dtake (dnat y3) y2), ())

theorem rising_d_ceq : rising_d = rising_dC := by
  funext v
  simp only [rising_d, rising_dC, cloneF_eq, compactW_ceq, sortW_ceq] <;> rfl

def risingC (v : denL (leaves rising_i)) : Option (denL (leaves rising_o)) := rising_dC v

theorem rising_ceq : rising = risingC := by
  funext v
  rw [rising_eq, rising_d_ceq]; rfl


-- archipelago/table.Make
abbrev make_i : Items := [(.tmp 0, .dat (.int .i64)), (.tmp 1, .dat (.slice (.int .u32)))]
abbrev make_o : Items := [(.tmp 0, .dat (.int .i64)), (.tmp 1, .own 34 (.int .u32)), (.tmp 2, .own 4 .bool), (.tmp 3, .dat (.int .i64))]
abbrev make_r : List RS := [.agg 3, .one]
abbrev make_i0 : Items := [(.tmp 4, .box 3), (.cell 0 0, .dat (.int .i64)), (.cell 0 1, .nil (.int .u32)), (.cell 0 2, .nil .bool), (.tmp 8, .box 3), (.cell 1 0, .dat (.int .i64)), (.cell 1 1, .own 34 (.int .u32)), (.cell 1 2, .own 4 .bool), (.tmp 37, .own 34 (.int .u32)), (.tmp 38, .dat (.int .i64)), (.tmp 39, .dat (.int .i64))]
abbrev make_o0 : Outs := [(.exit 0, [(.tmp 4, .box 3), (.cell 0 0, .dat (.int .i64)), (.cell 0 1, .nil (.int .u32)), (.cell 0 2, .nil .bool), (.tmp 8, .box 3), (.cell 1 0, .dat (.int .i64)), (.cell 1 1, .own 34 (.int .u32)), (.cell 1 2, .own 4 .bool)])]
def make_s0 : (Int × Int × List Int × List Bool × List Int × Int × Int × Unit) → Option ((Int × Int × List Int × List Bool × List Int × Int × Int × Unit) ⊕ (Int × Int × List Int × List Bool × Unit) ⊕ Unit) := fun (a0, a1, a2, a3, a4, a5, a6, _) =>
  match (ilt a6 a5) with
  | true => match idx a4 a6 with
    | none => none
    | some x0 => match probe ((a1, (a2, (a3, ()))), (dget a4 (dnat a6) (0 : Int)), ()) with
      | none => none
      | some (y1, y2, _) => match idx a2 y1 with
        | none => none
        | some x3 => match idx a3 y1 with
          | none => none
          | some x4 => some (.inl (a0, a1, (dset a2 (dnat y1) (dget a4 (dnat a6) (0 : Int))), (dset a3 (dnat y1) true), a4, a5, (IntKind.wrap .i64 (a6 + (1 : Int))), ()))
  | false => some (.inr (.inl (a0, a1, a2, a3, ())))
def make_d : (Int × List Int × Unit) → Option ((Int × List Int × List Bool × Int × Unit)) := fun (a0, a1, _) =>
  match sized (a0, ()) with
  | none => none
  | some (y0, _) => match (!y0) with
    | true => some ((0 : Int), ([] : List (Int)), ([] : List (Bool)), (1 : Int), ())
    | false => match shl? .i64 (1 : Int) (IntKind.wrap .u64 a0) with
      | none => none
      | some x1 => match rising (a1, ()) with
        | none => none
        | some (y2, _) => match shr? .i64 x1 (1 : Int) with
          | none => none
          | some x3 => match shr? .i64 x1 (2 : Int) with
            | none => none
            | some x4 => match (ilt (IntKind.wrap .i64 (x3 + x4)) (dlen y2)) with
              | true => some ((0 : Int), ([] : List (Int)), ([] : List (Bool)), (2 : Int), ())
              | false => match (fitsI x1 && fitsI x1 && ile x1 x1 && true) with
                | true => match (fitsI x1 && fitsI x1 && ile x1 x1 && true) with
                  | true => match iterL make_s0 many ((0 : Int), a0, (drep (dnat x1) (0 : Int)), (drep (dnat x1) false), y2, (dlen y2), (0 : Int), ()) with
                    | none => none
                    | some r => match r with
                      | .inl (o5, o6, o7, o8, _) => some (o6, o7, o8, (0 : Int), ())
                      | .inr _ => none
                  | false => none
                | false => none
def make (v : (Int × List Int × Unit)) : Option ((Int × List Int × List Bool × Int × Unit)) := lock (make_d v)
theorem make_eq (v : (Int × List Int × Unit)) : make v = make_d v := lock_eq _
def make_s0C : (Int × Int × List Int × List Bool × List Int × Int × Int × Unit) → Option ((Int × Int × List Int × List Bool × List Int × Int × Int × Unit) ⊕ (Int × Int × List Int × List Bool × Unit) ⊕ Unit) := fun (a0, a1, a2, a3, a4, a5, a6, _) =>
  match (iltR a6 a5) with
  | true => match idxR a4 a6 with
    | none => none
    | some x0 => match probeC ((a1, (a2, (a3, ()))), (dget a4 (dnat a6) (0 : Int)), ()) with
      | none => none
      | some (y1, y2, _) => match idxR a2 y1 with
        | none => none
        | some x3 => match idxR a3 y1 with
          | none => none
          | some x4 => some (.inl (a0, a1, (dset a2 (dnat y1) (dget a4 (dnat a6) (0 : Int))), (dset a3 (dnat y1) true), a4, a5, (IntKind.wrap .i64 (a6 + (1 : Int))), ()))
  | false => some (.inr (.inl (a0, a1, a2, a3, ())))

theorem make_s0_ceq : make_s0 = make_s0C := by
  funext v
  simp only [make_s0, make_s0C, idx_eq, ilt_eqR, probe_ceq] <;> rfl

def make_dC : (Int × List Int × Unit) → Option ((Int × List Int × List Bool × Int × Unit)) := fun (a0, a1, _) =>
  match sizedC (a0, ()) with
  | none => none
  | some (y0, _) => match (!y0) with
    | true => some ((0 : Int), ([] : List (Int)), ([] : List (Bool)), (1 : Int), ())
    | false => match shlR .i64 (1 : Int) (IntKind.wrap .u64 a0) with
      | none => none
      | some x1 => match risingC (a1, ()) with
        | none => none
        | some (y2, _) => match shrR .i64 x1 (1 : Int) with
          | none => none
          | some x3 => match shrR .i64 x1 (2 : Int) with
            | none => none
            | some x4 => match (iltR (IntKind.wrap .i64 (x3 + x4)) (dlen y2)) with
              | true => some ((0 : Int), ([] : List (Int)), ([] : List (Bool)), (2 : Int), ())
              | false => match (fitsIR x1 && fitsIR x1 && ileR x1 x1 && true) with
                | true => match (fitsIR x1 && fitsIR x1 && ileR x1 x1 && true) with
                  | true => match iterO make_s0C many ((0 : Int), a0, (drep (dnat x1) (0 : Int)), (drep (dnat x1) false), y2, (dlen y2), (0 : Int), ()) with
                    | none => none
                    | some r => match r with
                      | .inl (o5, o6, o7, o8, _) => some (o6, o7, o8, (0 : Int), ())
                      | .inr _ => none
                  | false => none
                | false => none

theorem make_d_ceq : make_d = make_dC := by
  funext v
  simp only [make_d, make_dC, fitsI_eq, shl_eq, shr_eq, iterL_eq, ilt_eqR, ile_eqR, sized_ceq, rising_ceq, make_s0_ceq] <;> rfl

def makeC (v : denL (leaves make_i)) : Option (denL (leaves make_o)) := make_dC v

theorem make_ceq : make = makeC := by
  funext v
  rw [make_eq, make_d_ceq]; rfl


end
end Go.Pev
end
section
/- The models of functions: what they compute, as plain functions of leaves; each twice: locked, and to compute with (C). Printed by a program. -/
namespace Go.Pev
set_option maxRecDepth 100000
noncomputable section
attribute [local irreducible] fitsR fitsIR idxR sublR iltR ileR ieqR quoR remR shlR shrR cloneR iterO many IntKind.wrap dlen dset dget dapp dtake dcut drep dnat dclear imin imax lookupM storeM
-- archipelago/table.Keys
abbrev keys_i : Items := [(.tmp 0, .dat (.prod (.int .i64) (.prod (.slice (.int .u32)) (.prod (.slice .bool) .unit))))]
abbrev keys_o : Items := [(.tmp 0, .own 34 (.int .u32))]
abbrev keys_r : List RS := [.one]
abbrev keys_i0 : Items := [(.tmp 1, .box 3), (.cell 0 0, .dat (.int .i64)), (.cell 0 1, .dat (.slice (.int .u32))), (.cell 0 2, .dat (.slice .bool)), (.tmp 3, .own 34 (.int .u32)), (.tmp 7, .dat (.slice .bool)), (.tmp 8, .dat (.int .i64)), (.tmp 9, .dat (.int .i64))]
abbrev keys_o0 : Outs := [(.exit 0, [(.tmp 3, .own 34 (.int .u32))])]
def keys_s0 : (Int × List Int × List Bool × List Int × List Bool × Int × Int × Unit) → Option ((Int × List Int × List Bool × List Int × List Bool × Int × Int × Unit) ⊕ (List Int × Unit) ⊕ Unit) := fun (a0, a1, a2, a3, a4, a5, a6, _) =>
  match (ilt a6 a5) with
  | true => match idx a4 a6 with
    | none => none
    | some x0 => match x0 with
      | true => match (ilt a6 (dlen a1)) with
        | true => match idx a1 a6 with
          | none => none
          | some x1 => match (fits ((dlen a3) + (dlen ([x1] : List (Int))))) with
            | true => some (.inl (a0, a1, a2, (dapp a3 ([x1] : List (Int))), a4, a5, (IntKind.wrap .i64 (a6 + (1 : Int))), ()))
            | false => none
        | false => some (.inl (a0, a1, a2, a3, a4, a5, (IntKind.wrap .i64 (a6 + (1 : Int))), ()))
      | false => some (.inl (a0, a1, a2, a3, a4, a5, (IntKind.wrap .i64 (a6 + (1 : Int))), ()))
  | false => some (.inr (.inl (a3, ())))
def keys_d : ((Int × (List Int) × (List Bool) × Unit) × Unit) → Option ((List Int × Unit)) := fun (a0, _) =>
  match iterL keys_s0 many (a0.1, a0.2.1, a0.2.2.1, ([] : List (Int)), a0.2.2.1, (dlen a0.2.2.1), (0 : Int), ()) with
  | none => none
  | some r => match r with
    | .inl (o0, _) => match rising (o0, ()) with
      | none => none
      | some (y1, _) => some (y1, ())
    | .inr _ => none
def keys (v : ((Int × (List Int) × (List Bool) × Unit) × Unit)) : Option ((List Int × Unit)) := lock (keys_d v)
theorem keys_eq (v : ((Int × (List Int) × (List Bool) × Unit) × Unit)) : keys v = keys_d v := lock_eq _
def keys_s0C : (Int × List Int × List Bool × List Int × List Bool × Int × Int × Unit) → Option ((Int × List Int × List Bool × List Int × List Bool × Int × Int × Unit) ⊕ (List Int × Unit) ⊕ Unit) := fun (a0, a1, a2, a3, a4, a5, a6, _) =>
  match (iltR a6 a5) with
  | true => match idxR a4 a6 with
    | none => none
    | some x0 => match x0 with
      | true => match (iltR a6 (dlen a1)) with
        | true => match idxR a1 a6 with
          | none => none
          | some x1 => match (fitsR ((dlen a3) + (dlen ([x1] : List (Int))))) with
            | true => some (.inl (a0, a1, a2, (dapp a3 ([x1] : List (Int))), a4, a5, (IntKind.wrap .i64 (a6 + (1 : Int))), ()))
            | false => none
        | false => some (.inl (a0, a1, a2, a3, a4, a5, (IntKind.wrap .i64 (a6 + (1 : Int))), ()))
      | false => some (.inl (a0, a1, a2, a3, a4, a5, (IntKind.wrap .i64 (a6 + (1 : Int))), ()))
  | false => some (.inr (.inl (a3, ())))

theorem keys_s0_ceq : keys_s0 = keys_s0C := by
  funext v
  simp only [keys_s0, keys_s0C, idx_eq, fits_eq, ilt_eqR] <;> rfl

def keys_dC : ((Int × (List Int) × (List Bool) × Unit) × Unit) → Option ((List Int × Unit)) := fun (a0, _) =>
  match iterO keys_s0C many (a0.1, a0.2.1, a0.2.2.1, ([] : List (Int)), a0.2.2.1, (dlen a0.2.2.1), (0 : Int), ()) with
  | none => none
  | some r => match r with
    | .inl (o0, _) => match risingC (o0, ()) with
      | none => none
      | some (y1, _) => some (y1, ())
    | .inr _ => none

theorem keys_d_ceq : keys_d = keys_dC := by
  funext v
  simp only [keys_d, keys_dC, iterL_eq, rising_ceq, keys_s0_ceq] <;> rfl

def keysC (v : denL (leaves keys_i)) : Option (denL (leaves keys_o)) := keys_dC v

theorem keys_ceq : keys = keysC := by
  funext v
  rw [keys_eq, keys_d_ceq]; rfl


-- archipelago/table.Right
abbrev right_i : Items := [(.tmp 0, .dat (.prod (.int .i64) (.prod (.slice (.int .u32)) (.prod (.slice .bool) .unit))))]
abbrev right_o : Items := [(.tmp 0, .dat .bool)]
abbrev right_r : List RS := [.one]
def right_d : ((Int × (List Int) × (List Bool) × Unit) × Unit) → Option ((Bool × Unit)) := fun (a0, _) =>
  match keys ((a0.1, (a0.2.1, (a0.2.2.1, ()))), ()) with
  | none => none
  | some (y0, _) => match make (a0.1, y0, ()) with
    | none => none
    | some (y1, y2, y3, y4, _) => match (ieq y4 (0 : Int)) with
      | true => match equalW (y2, a0.2.1, ()) with
        | none => none
        | some (y5, _) => match y5 with
          | true => match equalB (y3, a0.2.2.1, ()) with
            | none => none
            | some (y6, _) => some (y6, ())
          | false => some (false, ())
      | false => some (false, ())
def right (v : ((Int × (List Int) × (List Bool) × Unit) × Unit)) : Option ((Bool × Unit)) := lock (right_d v)
theorem right_eq (v : ((Int × (List Int) × (List Bool) × Unit) × Unit)) : right v = right_d v := lock_eq _
def right_dC : ((Int × (List Int) × (List Bool) × Unit) × Unit) → Option ((Bool × Unit)) := fun (a0, _) =>
  match keysC ((a0.1, (a0.2.1, (a0.2.2.1, ()))), ()) with
  | none => none
  | some (y0, _) => match makeC (a0.1, y0, ()) with
    | none => none
    | some (y1, y2, y3, y4, _) => match (ieqR y4 (0 : Int)) with
      | true => match equalWC (y2, a0.2.1, ()) with
        | none => none
        | some (y5, _) => match y5 with
          | true => match equalBC (y3, a0.2.2.1, ()) with
            | none => none
            | some (y6, _) => some (y6, ())
          | false => some (false, ())
      | false => some (false, ())

theorem right_d_ceq : right_d = right_dC := by
  funext v
  simp only [right_d, right_dC, ieq_eqR, equalW_ceq, equalB_ceq, make_ceq, keys_ceq] <;> rfl

def rightC (v : denL (leaves right_i)) : Option (denL (leaves right_o)) := right_dC v

theorem right_ceq : right = rightC := by
  funext v
  rw [right_eq, right_d_ceq]; rfl


-- archipelago/table.Find
abbrev find_i : Items := [(.tmp 0, .dat (.prod (.int .i64) (.prod (.slice (.int .u32)) (.prod (.slice .bool) .unit)))), (.tmp 1, .dat (.int .u32))]
abbrev find_o : Items := [(.tmp 0, .dat (.int .i64)), (.tmp 1, .dat (.int .i64)), (.tmp 2, .dat .bool)]
abbrev find_r : List RS := [.one, .one, .one]
def find_d : ((Int × (List Int) × (List Bool) × Unit) × Int × Unit) → Option ((Int × Int × Bool × Unit)) := fun (a0, a1, _) =>
  match right ((a0.1, (a0.2.1, (a0.2.2.1, ()))), ()) with
  | none => none
  | some (y0, _) => match (!y0) with
    | true => some ((0 : Int), (0 : Int), false, ())
    | false => match probe ((a0.1, (a0.2.1, (a0.2.2.1, ()))), a1, ()) with
      | none => none
      | some (y1, y2, _) => match idx a0.2.2.1 y1 with
        | none => none
        | some x3 => match (!x3) with
          | true => some ((0 : Int), y2, false, ())
          | false => some (y1, y2, true, ())
def find (v : ((Int × (List Int) × (List Bool) × Unit) × Int × Unit)) : Option ((Int × Int × Bool × Unit)) := lock (find_d v)
theorem find_eq (v : ((Int × (List Int) × (List Bool) × Unit) × Int × Unit)) : find v = find_d v := lock_eq _
def find_dC : ((Int × (List Int) × (List Bool) × Unit) × Int × Unit) → Option ((Int × Int × Bool × Unit)) := fun (a0, a1, _) =>
  match rightC ((a0.1, (a0.2.1, (a0.2.2.1, ()))), ()) with
  | none => none
  | some (y0, _) => match (!y0) with
    | true => some ((0 : Int), (0 : Int), false, ())
    | false => match probeC ((a0.1, (a0.2.1, (a0.2.2.1, ()))), a1, ()) with
      | none => none
      | some (y1, y2, _) => match idxR a0.2.2.1 y1 with
        | none => none
        | some x3 => match (!x3) with
          | true => some ((0 : Int), y2, false, ())
          | false => some (y1, y2, true, ())

theorem find_d_ceq : find_d = find_dC := by
  funext v
  simp only [find_d, find_dC, idx_eq, probe_ceq, right_ceq] <;> rfl

def findC (v : denL (leaves find_i)) : Option (denL (leaves find_o)) := find_dC v

theorem find_ceq : find = findC := by
  funext v
  rw [find_eq, find_d_ceq]; rfl


-- archipelago/table.Put$1
abbrev put1_i : Items := [(.tmp 0, .dat (.slice (.int .u32))), (.tmp 1, .box 1), (.cell 0 0, .dat (.slice (.int .u32)))]
abbrev put1_o : Items := [(.obj 0, .box 1), (.cell 0 0, .dat (.slice (.int .u32))), (.tmp 0, .own 34 (.int .u32))]
abbrev put1_r : List RS := [.one]
def put1_d : (List Int × List Int × Unit) → Option ((List Int × List Int × Unit)) := fun (a0, a1, _) =>
  match concatW (([a0, a1] : List (List Int)), ()) with
  | none => none
  | some (y0, _) => some (a1, y0, ())
def put1 (v : (List Int × List Int × Unit)) : Option ((List Int × List Int × Unit)) := lock (put1_d v)
theorem put1_eq (v : (List Int × List Int × Unit)) : put1 v = put1_d v := lock_eq _
def put1_dC : (List Int × List Int × Unit) → Option ((List Int × List Int × Unit)) := fun (a0, a1, _) =>
  match concatWC (([a0, a1] : List (List Int)), ()) with
  | none => none
  | some (y0, _) => some (a1, y0, ())

theorem put1_d_ceq : put1_d = put1_dC := by
  funext v
  simp only [put1_d, put1_dC, concatW_ceq] <;> rfl

def put1C (v : denL (leaves put1_i)) : Option (denL (leaves put1_o)) := put1_dC v

theorem put1_ceq : put1 = put1C := by
  funext v
  rw [put1_eq, put1_d_ceq]; rfl


-- slices.IndexFunc[[]uint32,uint32]
abbrev idxFuncW_drop_i : Items := [(.tmp 0, .own 34 (.int .u32)), (.cap 1 0, .box 1), (.cell 1 0, .dat (.slice (.int .u32))), (.tmp 1, .clo 56 [(1, 0)])]
abbrev idxFuncW_drop_o : Items := [(.obj 0, .own 34 (.int .u32)), (.obj 1, .box 1), (.cell 1 0, .dat (.slice (.int .u32))), (.tmp 0, .dat (.int .i64))]
abbrev idxFuncW_drop_r : List RS := [.one]
abbrev idxFuncW_drop_i0 : Items := [(.obj 0, .own 34 (.int .u32)), (.obj 1, .box 1), (.cell 1 0, .dat (.slice (.int .u32))), (.tmp 0, .own' 0), (.tmp 1, .clo 56 [(1, 0)]), (.tmp 7, .dat (.int .i64)), (.tmp 8, .dat (.int .i64))]
abbrev idxFuncW_drop_o0 : Outs := [(.ret, [(.obj 0, .own 34 (.int .u32)), (.obj 1, .box 1), (.cell 1 0, .dat (.slice (.int .u32))), (.tmp 4, .dat (.int .i64))]), (.exit 0, [(.obj 0, .own 34 (.int .u32)), (.obj 1, .box 1), (.cell 1 0, .dat (.slice (.int .u32)))])]
def idxFuncW_drop_s0 : (List Int × List Int × Int × Int × Unit) → Option ((List Int × List Int × Int × Int × Unit) ⊕ (List Int × List Int × Int × Unit) ⊕ (List Int × List Int × Unit) ⊕ Unit) := fun (a0, a1, a2, a3, _) =>
  match (ilt a3 a2) with
  | true => match idx a0 a3 with
    | none => none
    | some x0 => match containsW (a1, (dget a0 (dnat a3) (0 : Int)), ()) with
      | none => none
      | some (y1, _) => match y1 with
        | true => some (.inr (.inl (a0, a1, a3, ())))
        | false => some (.inl (a0, a1, a2, (IntKind.wrap .i64 (a3 + (1 : Int))), ()))
  | false => some (.inr (.inr (.inl (a0, a1, ()))))
def idxFuncW_drop_d : (List Int × List Int × Unit) → Option ((List Int × List Int × Int × Unit)) := fun (a0, a1, _) =>
  match iterL idxFuncW_drop_s0 many (a0, a1, (dlen a0), (0 : Int), ()) with
  | none => none
  | some r => match r with
    | .inl (o0, o1, o2, _) => some (o0, o1, o2, ())
    | .inr r => match r with
      | .inl (o3, o4, _) => some (o3, o4, (-1 : Int), ())
      | .inr _ => none
def idxFuncW_drop (v : (List Int × List Int × Unit)) : Option ((List Int × List Int × Int × Unit)) := lock (idxFuncW_drop_d v)
theorem idxFuncW_drop_eq (v : (List Int × List Int × Unit)) : idxFuncW_drop v = idxFuncW_drop_d v := lock_eq _
def idxFuncW_drop_s0C : (List Int × List Int × Int × Int × Unit) → Option ((List Int × List Int × Int × Int × Unit) ⊕ (List Int × List Int × Int × Unit) ⊕ (List Int × List Int × Unit) ⊕ Unit) := fun (a0, a1, a2, a3, _) =>
  match (iltR a3 a2) with
  | true => match idxR a0 a3 with
    | none => none
    | some x0 => match containsWC (a1, (dget a0 (dnat a3) (0 : Int)), ()) with
      | none => none
      | some (y1, _) => match y1 with
        | true => some (.inr (.inl (a0, a1, a3, ())))
        | false => some (.inl (a0, a1, a2, (IntKind.wrap .i64 (a3 + (1 : Int))), ()))
  | false => some (.inr (.inr (.inl (a0, a1, ()))))

theorem idxFuncW_drop_s0_ceq : idxFuncW_drop_s0 = idxFuncW_drop_s0C := by
  funext v
  simp only [idxFuncW_drop_s0, idxFuncW_drop_s0C, idx_eq, ilt_eqR, containsW_ceq] <;> rfl

def idxFuncW_drop_dC : (List Int × List Int × Unit) → Option ((List Int × List Int × Int × Unit)) := fun (a0, a1, _) =>
  match iterO idxFuncW_drop_s0C many (a0, a1, (dlen a0), (0 : Int), ()) with
  | none => none
  | some r => match r with
    | .inl (o0, o1, o2, _) => some (o0, o1, o2, ())
    | .inr r => match r with
      | .inl (o3, o4, _) => some (o3, o4, (-1 : Int), ())
      | .inr _ => none

theorem idxFuncW_drop_d_ceq : idxFuncW_drop_d = idxFuncW_drop_dC := by
  funext v
  simp only [idxFuncW_drop_d, idxFuncW_drop_dC, iterL_eq, idxFuncW_drop_s0_ceq] <;> rfl

def idxFuncW_dropC (v : denL (leaves idxFuncW_drop_i)) : Option (denL (leaves idxFuncW_drop_o)) := idxFuncW_drop_dC v

theorem idxFuncW_drop_ceq : idxFuncW_drop = idxFuncW_dropC := by
  funext v
  rw [idxFuncW_drop_eq, idxFuncW_drop_d_ceq]; rfl


-- slices.DeleteFunc[[]uint32,uint32]
abbrev delFuncW_drop_i : Items := [(.tmp 0, .own 34 (.int .u32)), (.cap 1 0, .box 1), (.cell 1 0, .dat (.slice (.int .u32))), (.tmp 1, .clo 56 [(1, 0)])]
abbrev delFuncW_drop_o : Items := [(.obj 0, .own 34 (.int .u32)), (.obj 1, .box 1), (.cell 1 0, .dat (.slice (.int .u32))), (.tmp 0, .win' 0)]
abbrev delFuncW_drop_r : List RS := [.one]
abbrev delFuncW_drop_i0 : Items := [(.obj 0, .own 34 (.int .u32)), (.obj 1, .box 1), (.cell 1 0, .dat (.slice (.int .u32))), (.tmp 0, .own' 0), (.tmp 1, .clo 56 [(1, 0)]), (.tmp 5, .dat (.int .i64)), (.tmp 6, .dat (.int .i64))]
abbrev delFuncW_drop_o0 : Outs := [(.exit 0, [(.obj 0, .own 34 (.int .u32)), (.obj 1, .box 1), (.cell 1 0, .dat (.slice (.int .u32))), (.tmp 0, .own' 0), (.tmp 5, .dat (.int .i64))])]
def delFuncW_drop_s0 : (List Int × List Int × Int × Int × Unit) → Option ((List Int × List Int × Int × Int × Unit) ⊕ (List Int × List Int × Int × Unit) ⊕ Unit) := fun (a0, a1, a2, a3, _) =>
  match (ilt a3 (dlen a0)) with
  | true => match idx a0 a3 with
    | none => none
    | some x0 => match containsW (a1, (dget a0 (dnat a3) (0 : Int)), ()) with
      | none => none
      | some (y1, _) => match (!y1) with
        | true => match idx a0 a2 with
          | none => none
          | some x2 => some (.inl ((dset a0 (dnat a2) (dget a0 (dnat a3) (0 : Int))), a1, (IntKind.wrap .i64 (a2 + (1 : Int))), (IntKind.wrap .i64 (a3 + (1 : Int))), ()))
        | false => some (.inl (a0, a1, a2, (IntKind.wrap .i64 (a3 + (1 : Int))), ()))
  | false => some (.inr (.inl (a0, a1, a2, ())))
def delFuncW_drop_d : (List Int × List Int × Unit) → Option ((List Int × List Int × Int × Unit)) := fun (a0, a1, _) =>
  match idxFuncW_drop (a0, a1, ()) with
  | none => none
  | some (y0, y1, y2, _) => match (ieq y2 (-1 : Int)) with
    | true => some (y0, y1, (dlen y0), ())
    | false => match iterL delFuncW_drop_s0 many (y0, y1, y2, (IntKind.wrap .i64 (y2 + (1 : Int))), ()) with
      | none => none
      | some r => match r with
        | .inl (o3, o4, o5, _) => match subl o3 o5 (dlen o3) with
          | none => none
          | some x6 => match subl (dclear (dnat o5) (dnat (dlen x6)) (0 : Int) o3) (0 : Int) o5 with
            | none => none
            | some x7 => some ((dclear (dnat o5) (dnat (dlen x6)) (0 : Int) o3), o4, (((dnat (dlen x7)) : Nat) : Int), ())
        | .inr _ => none
def delFuncW_drop (v : (List Int × List Int × Unit)) : Option ((List Int × List Int × Int × Unit)) := lock (delFuncW_drop_d v)
theorem delFuncW_drop_eq (v : (List Int × List Int × Unit)) : delFuncW_drop v = delFuncW_drop_d v := lock_eq _
def delFuncW_drop_s0C : (List Int × List Int × Int × Int × Unit) → Option ((List Int × List Int × Int × Int × Unit) ⊕ (List Int × List Int × Int × Unit) ⊕ Unit) := fun (a0, a1, a2, a3, _) =>
  match (iltR a3 (dlen a0)) with
  | true => match idxR a0 a3 with
    | none => none
    | some x0 => match containsWC (a1, (dget a0 (dnat a3) (0 : Int)), ()) with
      | none => none
      | some (y1, _) => match (!y1) with
        | true => match idxR a0 a2 with
          | none => none
          | some x2 => some (.inl ((dset a0 (dnat a2) (dget a0 (dnat a3) (0 : Int))), a1, (IntKind.wrap .i64 (a2 + (1 : Int))), (IntKind.wrap .i64 (a3 + (1 : Int))), ()))
        | false => some (.inl (a0, a1, a2, (IntKind.wrap .i64 (a3 + (1 : Int))), ()))
  | false => some (.inr (.inl (a0, a1, a2, ())))

theorem delFuncW_drop_s0_ceq : delFuncW_drop_s0 = delFuncW_drop_s0C := by
  funext v
  simp only [delFuncW_drop_s0, delFuncW_drop_s0C, idx_eq, ilt_eqR, containsW_ceq] <;> rfl

def delFuncW_drop_dC : (List Int × List Int × Unit) → Option ((List Int × List Int × Int × Unit)) := fun (a0, a1, _) =>
  match idxFuncW_dropC (a0, a1, ()) with
  | none => none
  | some (y0, y1, y2, _) => match (ieqR y2 (-1 : Int)) with
    | true => some (y0, y1, (dlen y0), ())
    | false => match iterO delFuncW_drop_s0C many (y0, y1, y2, (IntKind.wrap .i64 (y2 + (1 : Int))), ()) with
      | none => none
      | some r => match r with
        | .inl (o3, o4, o5, _) => match sublR o3 o5 (dlen o3) with
          | none => none
          | some x6 => match sublR (dclear (dnat o5) (dnat (dlen x6)) (0 : Int) o3) (0 : Int) o5 with
            | none => none
            | some x7 => some ((dclear (dnat o5) (dnat (dlen x6)) (0 : Int) o3), o4, (((dnat (dlen x7)) : Nat) : Int), ())
        | .inr _ => none

theorem delFuncW_drop_d_ceq : delFuncW_drop_d = delFuncW_drop_dC := by
  funext v
  simp only [delFuncW_drop_d, delFuncW_drop_dC, subl_eq, iterL_eq, ieq_eqR, idxFuncW_drop_ceq, delFuncW_drop_s0_ceq] <;> rfl

def delFuncW_dropC (v : denL (leaves delFuncW_drop_i)) : Option (denL (leaves delFuncW_drop_o)) := delFuncW_drop_dC v

theorem delFuncW_drop_ceq : delFuncW_drop = delFuncW_dropC := by
  funext v
  rw [delFuncW_drop_eq, delFuncW_drop_d_ceq]; rfl


-- archipelago/table.Drop$1
abbrev drop1_i : Items := [(.tmp 0, .own 34 (.int .u32)), (.tmp 1, .box 1), (.cell 1 0, .dat (.slice (.int .u32)))]
abbrev drop1_o : Items := [(.obj 0, .own 34 (.int .u32)), (.obj 1, .box 1), (.cell 1 0, .dat (.slice (.int .u32))), (.tmp 0, .win' 0)]
abbrev drop1_r : List RS := [.one]
def drop1_d : (List Int × List Int × Unit) → Option ((List Int × List Int × Int × Unit)) := fun (a0, a1, _) =>
  match delFuncW_drop (a0, a1, ()) with
  | none => none
  | some (y0, y1, y2, _) => some (y0, y1, (((dnat y2) : Nat) : Int), ())
def drop1 (v : (List Int × List Int × Unit)) : Option ((List Int × List Int × Int × Unit)) := lock (drop1_d v)
theorem drop1_eq (v : (List Int × List Int × Unit)) : drop1 v = drop1_d v := lock_eq _
def drop1_dC : (List Int × List Int × Unit) → Option ((List Int × List Int × Int × Unit)) := fun (a0, a1, _) =>
  match delFuncW_dropC (a0, a1, ()) with
  | none => none
  | some (y0, y1, y2, _) => some (y0, y1, (((dnat y2) : Nat) : Int), ())

theorem drop1_d_ceq : drop1_d = drop1_dC := by
  funext v
  simp only [drop1_d, drop1_dC, delFuncW_drop_ceq] <;> rfl

def drop1C (v : denL (leaves drop1_i)) : Option (denL (leaves drop1_o)) := drop1_dC v

theorem drop1_ceq : drop1 = drop1C := by
  funext v
  rw [drop1_eq, drop1_d_ceq]; rfl


-- archipelago/table.Put
abbrev put_i : Items := [(.tmp 0, .dat (.prod (.int .i64) (.prod (.slice (.int .u32)) (.prod (.slice .bool) .unit)))), (.tmp 1, .dat (.slice (.int .u32)))]
abbrev put_o : Items := [(.tmp 0, .dat (.int .i64)), (.tmp 1, .dat (.slice (.int .u32))), (.tmp 2, .dat (.slice .bool)), (.tmp 3, .dat (.int .i64))]
abbrev put_r : List RS := [.agg 3, .one]
def put_d : ((Int × (List Int) × (List Bool) × Unit) × List Int × Unit) → Option ((Int × List Int × List Bool × Int × Unit)) := fun (a0, a1, _) =>
  match right ((a0.1, (a0.2.1, (a0.2.2.1, ()))), ()) with
  | none => none
  | some (y0, _) => match (!y0) with
    | true => some (a0.1, a0.2.1, a0.2.2.1, (1 : Int), ())
    | false => match keys ((a0.1, (a0.2.1, (a0.2.2.1, ()))), ()) with
      | none => none
      | some (y1, _) => match put1 (y1, a1, ()) with
        | none => none
        | some (y2, y3, _) => match make (a0.1, y3, ()) with
          | none => none
          | some (y4, y5, y6, y7, _) => match (!(ieq y7 (0 : Int))) with
            | true => some (a0.1, a0.2.1, a0.2.2.1, y7, ())
            | false => some (y4, y5, y6, (0 : Int), ())
def put (v : ((Int × (List Int) × (List Bool) × Unit) × List Int × Unit)) : Option ((Int × List Int × List Bool × Int × Unit)) := lock (put_d v)
theorem put_eq (v : ((Int × (List Int) × (List Bool) × Unit) × List Int × Unit)) : put v = put_d v := lock_eq _
def put_dC : ((Int × (List Int) × (List Bool) × Unit) × List Int × Unit) → Option ((Int × List Int × List Bool × Int × Unit)) := fun (a0, a1, _) =>
  match rightC ((a0.1, (a0.2.1, (a0.2.2.1, ()))), ()) with
  | none => none
  | some (y0, _) => match (!y0) with
    | true => some (a0.1, a0.2.1, a0.2.2.1, (1 : Int), ())
    | false => match keysC ((a0.1, (a0.2.1, (a0.2.2.1, ()))), ()) with
      | none => none
      | some (y1, _) => match put1C (y1, a1, ()) with
        | none => none
        | some (y2, y3, _) => match makeC (a0.1, y3, ()) with
          | none => none
          | some (y4, y5, y6, y7, _) => match (!(ieqR y7 (0 : Int))) with
            | true => some (a0.1, a0.2.1, a0.2.2.1, y7, ())
            | false => some (y4, y5, y6, (0 : Int), ())

theorem put_d_ceq : put_d = put_dC := by
  funext v
  simp only [put_d, put_dC, ieq_eqR, make_ceq, keys_ceq, right_ceq, put1_ceq] <;> rfl

def putC (v : denL (leaves put_i)) : Option (denL (leaves put_o)) := put_dC v

theorem put_ceq : put = putC := by
  funext v
  rw [put_eq, put_d_ceq]; rfl


-- archipelago/table.Drop
abbrev drop_i : Items := [(.tmp 0, .dat (.prod (.int .i64) (.prod (.slice (.int .u32)) (.prod (.slice .bool) .unit)))), (.tmp 1, .dat (.slice (.int .u32)))]
abbrev drop_o : Items := [(.tmp 0, .dat (.int .i64)), (.tmp 1, .dat (.slice (.int .u32))), (.tmp 2, .dat (.slice .bool)), (.tmp 3, .dat (.int .i64))]
abbrev drop_r : List RS := [.agg 3, .one]
def drop_d : ((Int × (List Int) × (List Bool) × Unit) × List Int × Unit) → Option ((Int × List Int × List Bool × Int × Unit)) := fun (a0, a1, _) =>
  match right ((a0.1, (a0.2.1, (a0.2.2.1, ()))), ()) with
  | none => none
  | some (y0, _) => match (!y0) with
    | true => some (a0.1, a0.2.1, a0.2.2.1, (1 : Int), ())
    | false => match keys ((a0.1, (a0.2.1, (a0.2.2.1, ()))), ()) with
      | none => none
      | some (y1, _) => match drop1 (y1, a1, ()) with
        | none => none
        | some (y2, y3, y4, _) => match make (a0.1, (dtake (dnat y4) y2), ()) with
          | none => none
          | some (y5, y6, y7, y8, _) => match (!(ieq y8 (0 : Int))) with
            | true => some (a0.1, a0.2.1, a0.2.2.1, y8, ())
            | false => some (y5, y6, y7, (0 : Int), ())
def drop (v : ((Int × (List Int) × (List Bool) × Unit) × List Int × Unit)) : Option ((Int × List Int × List Bool × Int × Unit)) := lock (drop_d v)
theorem drop_eq (v : ((Int × (List Int) × (List Bool) × Unit) × List Int × Unit)) : drop v = drop_d v := lock_eq _
def drop_dC : ((Int × (List Int) × (List Bool) × Unit) × List Int × Unit) → Option ((Int × List Int × List Bool × Int × Unit)) := fun (a0, a1, _) =>
  match rightC ((a0.1, (a0.2.1, (a0.2.2.1, ()))), ()) with
  | none => none
  | some (y0, _) => match (!y0) with
    | true => some (a0.1, a0.2.1, a0.2.2.1, (1 : Int), ())
    | false => match keysC ((a0.1, (a0.2.1, (a0.2.2.1, ()))), ()) with
      | none => none
      | some (y1, _) => match drop1C (y1, a1, ()) with
        | none => none
        | some (y2, y3, y4, _) => match makeC (a0.1, (dtake (dnat y4) y2), ()) with
          | none => none
          | some (y5, y6, y7, y8, _) => match (!(ieqR y8 (0 : Int))) with
            | true => some (a0.1, a0.2.1, a0.2.2.1, y8, ())
            | false => some (y5, y6, y7, (0 : Int), ())

theorem drop_d_ceq : drop_d = drop_dC := by
  funext v
  simp only [drop_d, drop_dC, ieq_eqR, make_ceq, keys_ceq, right_ceq, drop1_ceq] <;> rfl

def dropC (v : denL (leaves drop_i)) : Option (denL (leaves drop_o)) := drop_dC v

theorem drop_ceq : drop = dropC := by
  funext v
  rw [drop_eq, drop_d_ceq]; rfl


-- archipelago/archipelagoref11.Has
abbrev has11_i : Items := [(.tmp 0, .dat (.slice (.int .u32))), (.tmp 1, .dat (.int .u32))]
abbrev has11_o : Items := [(.tmp 0, .dat .bool)]
abbrev has11_r : List RS := [.one]
abbrev has11_i0 : Items := [(.tmp 0, .dat (.slice (.int .u32))), (.tmp 1, .dat (.int .u32)), (.tmp 5, .dat (.int .i64))]
abbrev has11_o0 : Outs := [(.ret, [(.tmp 4, .dat .bool)]), (.exit 0, [])]
def has11_s0 : (List Int × Int × Int × Unit) → Option ((List Int × Int × Int × Unit) ⊕ (Bool × Unit) ⊕ (Unit) ⊕ Unit) := fun (a0, a1, a2, _) =>
  match (ilt a2 (dlen a0)) with
  | true => match idx a0 a2 with
    | none => none
    | some x0 => match (ieq x0 a1) with
      | true => some (.inr (.inl (true, ())))
      | false => some (.inl (a0, a1, (IntKind.wrap .i64 (a2 + (1 : Int))), ()))
  | false => some (.inr (.inr (.inl ())))
def has11_d : (List Int × Int × Unit) → Option ((Bool × Unit)) := fun (a0, a1, _) =>
  match iterL has11_s0 many (a0, a1, (0 : Int), ()) with
  | none => none
  | some r => match r with
    | .inl (o0, _) => some (o0, ())
    | .inr r => match r with
      | .inl _ => some (false, ())
      | .inr _ => none
def has11 (v : (List Int × Int × Unit)) : Option ((Bool × Unit)) := lock (has11_d v)
theorem has11_eq (v : (List Int × Int × Unit)) : has11 v = has11_d v := lock_eq _
def has11_s0C : (List Int × Int × Int × Unit) → Option ((List Int × Int × Int × Unit) ⊕ (Bool × Unit) ⊕ (Unit) ⊕ Unit) := fun (a0, a1, a2, _) =>
  match (iltR a2 (dlen a0)) with
  | true => match idxR a0 a2 with
    | none => none
    | some x0 => match (ieqR x0 a1) with
      | true => some (.inr (.inl (true, ())))
      | false => some (.inl (a0, a1, (IntKind.wrap .i64 (a2 + (1 : Int))), ()))
  | false => some (.inr (.inr (.inl ())))

theorem has11_s0_ceq : has11_s0 = has11_s0C := by
  funext v
  simp only [has11_s0, has11_s0C, idx_eq, ilt_eqR, ieq_eqR] <;> rfl

def has11_dC : (List Int × Int × Unit) → Option ((Bool × Unit)) := fun (a0, a1, _) =>
  match iterO has11_s0C many (a0, a1, (0 : Int), ()) with
  | none => none
  | some r => match r with
    | .inl (o0, _) => some (o0, ())
    | .inr r => match r with
      | .inl _ => some (false, ())
      | .inr _ => none

theorem has11_d_ceq : has11_d = has11_dC := by
  funext v
  simp only [has11_d, has11_dC, iterL_eq, has11_s0_ceq] <;> rfl

def has11C (v : denL (leaves has11_i)) : Option (denL (leaves has11_o)) := has11_dC v

theorem has11_ceq : has11 = has11C := by
  funext v
  rw [has11_eq, has11_d_ceq]; rfl


-- archipelago/archipelagoref11.Without
abbrev without11_i : Items := [(.tmp 0, .dat (.slice (.int .u32))), (.tmp 1, .dat (.slice (.int .u32)))]
abbrev without11_o : Items := [(.tmp 0, .own 34 (.int .u32))]
abbrev without11_r : List RS := [.one]
abbrev without11_i0 : Items := [(.tmp 0, .dat (.slice (.int .u32))), (.tmp 1, .dat (.slice (.int .u32))), (.tmp 5, .own 34 (.int .u32)), (.tmp 6, .dat (.int .i64))]
abbrev without11_o0 : Outs := [(.exit 0, [(.tmp 5, .own 34 (.int .u32))])]
def without11_s0 : (List Int × List Int × List Int × Int × Unit) → Option ((List Int × List Int × List Int × Int × Unit) ⊕ (List Int × Unit) ⊕ Unit) := fun (a0, a1, a2, a3, _) =>
  match (ilt a3 (dlen a0)) with
  | true => match idx a0 a3 with
    | none => none
    | some x0 => match has11 (a1, x0, ()) with
      | none => none
      | some (y1, _) => match (!y1) with
        | true => match idx a0 a3 with
          | none => none
          | some x2 => match (fits ((dlen a2) + (dlen ([x2] : List (Int))))) with
            | true => some (.inl (a0, a1, (dapp a2 ([x2] : List (Int))), (IntKind.wrap .i64 (a3 + (1 : Int))), ()))
            | false => none
        | false => some (.inl (a0, a1, a2, (IntKind.wrap .i64 (a3 + (1 : Int))), ()))
  | false => some (.inr (.inl (a2, ())))
def without11_d : (List Int × List Int × Unit) → Option ((List Int × Unit)) := fun (a0, a1, _) =>
  match iterL without11_s0 many (a0, a1, ([] : List (Int)), (0 : Int), ()) with
  | none => none
  | some r => match r with
    | .inl (o0, _) => some (o0, ())
    | .inr _ => none
def without11 (v : (List Int × List Int × Unit)) : Option ((List Int × Unit)) := lock (without11_d v)
theorem without11_eq (v : (List Int × List Int × Unit)) : without11 v = without11_d v := lock_eq _
def without11_s0C : (List Int × List Int × List Int × Int × Unit) → Option ((List Int × List Int × List Int × Int × Unit) ⊕ (List Int × Unit) ⊕ Unit) := fun (a0, a1, a2, a3, _) =>
  match (iltR a3 (dlen a0)) with
  | true => match idxR a0 a3 with
    | none => none
    | some x0 => match has11C (a1, x0, ()) with
      | none => none
      | some (y1, _) => match (!y1) with
        | true => match idxR a0 a3 with
          | none => none
          | some x2 => match (fitsR ((dlen a2) + (dlen ([x2] : List (Int))))) with
            | true => some (.inl (a0, a1, (dapp a2 ([x2] : List (Int))), (IntKind.wrap .i64 (a3 + (1 : Int))), ()))
            | false => none
        | false => some (.inl (a0, a1, a2, (IntKind.wrap .i64 (a3 + (1 : Int))), ()))
  | false => some (.inr (.inl (a2, ())))

theorem without11_s0_ceq : without11_s0 = without11_s0C := by
  funext v
  simp only [without11_s0, without11_s0C, idx_eq, fits_eq, ilt_eqR, has11_ceq] <;> rfl

def without11_dC : (List Int × List Int × Unit) → Option ((List Int × Unit)) := fun (a0, a1, _) =>
  match iterO without11_s0C many (a0, a1, ([] : List (Int)), (0 : Int), ()) with
  | none => none
  | some r => match r with
    | .inl (o0, _) => some (o0, ())
    | .inr _ => none

theorem without11_d_ceq : without11_d = without11_dC := by
  funext v
  simp only [without11_d, without11_dC, iterL_eq, without11_s0_ceq] <;> rfl

def without11C (v : denL (leaves without11_i)) : Option (denL (leaves without11_o)) := without11_dC v

theorem without11_ceq : without11 = without11C := by
  funext v
  rw [without11_eq, without11_d_ceq]; rfl


-- archipelago/archipelagoref07.Words
abbrev words07_i : Items := [(.tmp 0, .dat (.slice (.int .u32))), (.tmp 1, .dat (.slice (.int .u32)))]
abbrev words07_o : Items := [(.tmp 0, .dat .bool)]
abbrev words07_r : List RS := [.one]
abbrev words07_i0 : Items := [(.tmp 0, .dat (.slice (.int .u32))), (.tmp 1, .dat (.slice (.int .u32))), (.tmp 5, .dat (.int .i64))]
abbrev words07_o0 : Outs := [(.ret, [(.tmp 4, .dat .bool)]), (.exit 0, [])]
def words07_s0 : (List Int × List Int × Int × Unit) → Option ((List Int × List Int × Int × Unit) ⊕ (Bool × Unit) ⊕ (Unit) ⊕ Unit) := fun (a0, a1, a2, _) =>
  match (ilt a2 (dlen a0)) with
  | true => match idx a0 a2 with
    | none => none
    | some x0 => match idx a1 a2 with
      | none => none
      | some x1 => match (!(ieq x0 x1)) with
        | true => some (.inr (.inl (false, ())))
        | false => some (.inl (a0, a1, (IntKind.wrap .i64 (a2 + (1 : Int))), ()))
  | false => some (.inr (.inr (.inl ())))
def words07_d : (List Int × List Int × Unit) → Option ((Bool × Unit)) := fun (a0, a1, _) =>
  match (!(ieq (dlen a0) (dlen a1))) with
  | true => some (false, ())
  | false => match iterL words07_s0 many (a0, a1, (0 : Int), ()) with
    | none => none
    | some r => match r with
      | .inl (o0, _) => some (o0, ())
      | .inr r => match r with
        | .inl _ => some (true, ())
        | .inr _ => none
def words07 (v : (List Int × List Int × Unit)) : Option ((Bool × Unit)) := lock (words07_d v)
theorem words07_eq (v : (List Int × List Int × Unit)) : words07 v = words07_d v := lock_eq _
def words07_s0C : (List Int × List Int × Int × Unit) → Option ((List Int × List Int × Int × Unit) ⊕ (Bool × Unit) ⊕ (Unit) ⊕ Unit) := fun (a0, a1, a2, _) =>
  match (iltR a2 (dlen a0)) with
  | true => match idxR a0 a2 with
    | none => none
    | some x0 => match idxR a1 a2 with
      | none => none
      | some x1 => match (!(ieqR x0 x1)) with
        | true => some (.inr (.inl (false, ())))
        | false => some (.inl (a0, a1, (IntKind.wrap .i64 (a2 + (1 : Int))), ()))
  | false => some (.inr (.inr (.inl ())))

theorem words07_s0_ceq : words07_s0 = words07_s0C := by
  funext v
  simp only [words07_s0, words07_s0C, idx_eq, ilt_eqR, ieq_eqR] <;> rfl

def words07_dC : (List Int × List Int × Unit) → Option ((Bool × Unit)) := fun (a0, a1, _) =>
  match (!(ieqR (dlen a0) (dlen a1))) with
  | true => some (false, ())
  | false => match iterO words07_s0C many (a0, a1, (0 : Int), ()) with
    | none => none
    | some r => match r with
      | .inl (o0, _) => some (o0, ())
      | .inr r => match r with
        | .inl _ => some (true, ())
        | .inr _ => none

theorem words07_d_ceq : words07_d = words07_dC := by
  funext v
  simp only [words07_d, words07_dC, iterL_eq, ieq_eqR, words07_s0_ceq] <;> rfl

def words07C (v : denL (leaves words07_i)) : Option (denL (leaves words07_o)) := words07_dC v

theorem words07_ceq : words07 = words07C := by
  funext v
  rw [words07_eq, words07_d_ceq]; rfl


-- archipelago/archipelagoref12.Same
abbrev same12_i : Items := [(.tmp 0, .dat (.prod (.int .i64) (.prod (.slice (.int .u32)) (.prod (.slice .bool) .unit)))), (.tmp 1, .dat (.prod (.int .i64) (.prod (.slice (.int .u32)) (.prod (.slice .bool) .unit))))]
abbrev same12_o : Items := [(.tmp 0, .dat .bool)]
abbrev same12_r : List RS := [.one]
abbrev same12_i0 : Items := [(.tmp 2, .box 3), (.cell 0 0, .dat (.int .i64)), (.cell 0 1, .dat (.slice (.int .u32))), (.cell 0 2, .dat (.slice .bool)), (.tmp 3, .box 3), (.cell 1 0, .dat (.int .i64)), (.cell 1 1, .dat (.slice (.int .u32))), (.cell 1 2, .dat (.slice .bool)), (.tmp 5, .dat (.int .i64))]
abbrev same12_o0 : Outs := [(.ret, [(.tmp 4, .dat .bool)]), (.exit 0, [(.tmp 2, .box 3), (.cell 0 0, .dat (.int .i64)), (.cell 0 1, .dat (.slice (.int .u32))), (.cell 0 2, .dat (.slice .bool)), (.tmp 3, .box 3), (.cell 1 0, .dat (.int .i64)), (.cell 1 1, .dat (.slice (.int .u32))), (.cell 1 2, .dat (.slice .bool))])]
def same12_s0 : (Int × List Int × List Bool × Int × List Int × List Bool × Int × Unit) → Option ((Int × List Int × List Bool × Int × List Int × List Bool × Int × Unit) ⊕ (Bool × Unit) ⊕ (Int × List Int × List Bool × Int × List Int × List Bool × Unit) ⊕ Unit) := fun (a0, a1, a2, a3, a4, a5, a6, _) =>
  match (ilt a6 (dlen a2)) with
  | true => match idx a2 a6 with
    | none => none
    | some x0 => match idx a5 a6 with
      | none => none
      | some x1 => match (!(x0 == x1)) with
        | true => some (.inr (.inl (false, ())))
        | false => some (.inl (a0, a1, a2, a3, a4, a5, (IntKind.wrap .i64 (a6 + (1 : Int))), ()))
  | false => some (.inr (.inr (.inl (a0, a1, a2, a3, a4, a5, ()))))
def same12_d : ((Int × (List Int) × (List Bool) × Unit) × (Int × (List Int) × (List Bool) × Unit) × Unit) → Option ((Bool × Unit)) := fun (a0, a1, _) =>
  match (!(ieq a0.1 a1.1)) with
  | true => some (false, ())
  | false => match (!(ieq (dlen a0.2.2.1) (dlen a1.2.2.1))) with
    | true => some (false, ())
    | false => match iterL same12_s0 many (a0.1, a0.2.1, a0.2.2.1, a1.1, a1.2.1, a1.2.2.1, (0 : Int), ()) with
      | none => none
      | some r => match r with
        | .inl (o0, _) => some (o0, ())
        | .inr r => match r with
          | .inl (o1, o2, o3, o4, o5, o6, _) => match words07 (o2, o5, ()) with
            | none => none
            | some (y7, _) => some (y7, ())
          | .inr _ => none
def same12 (v : ((Int × (List Int) × (List Bool) × Unit) × (Int × (List Int) × (List Bool) × Unit) × Unit)) : Option ((Bool × Unit)) := lock (same12_d v)
theorem same12_eq (v : ((Int × (List Int) × (List Bool) × Unit) × (Int × (List Int) × (List Bool) × Unit) × Unit)) : same12 v = same12_d v := lock_eq _
def same12_s0C : (Int × List Int × List Bool × Int × List Int × List Bool × Int × Unit) → Option ((Int × List Int × List Bool × Int × List Int × List Bool × Int × Unit) ⊕ (Bool × Unit) ⊕ (Int × List Int × List Bool × Int × List Int × List Bool × Unit) ⊕ Unit) := fun (a0, a1, a2, a3, a4, a5, a6, _) =>
  match (iltR a6 (dlen a2)) with
  | true => match idxR a2 a6 with
    | none => none
    | some x0 => match idxR a5 a6 with
      | none => none
      | some x1 => match (!(x0 == x1)) with
        | true => some (.inr (.inl (false, ())))
        | false => some (.inl (a0, a1, a2, a3, a4, a5, (IntKind.wrap .i64 (a6 + (1 : Int))), ()))
  | false => some (.inr (.inr (.inl (a0, a1, a2, a3, a4, a5, ()))))

theorem same12_s0_ceq : same12_s0 = same12_s0C := by
  funext v
  simp only [same12_s0, same12_s0C, idx_eq, ilt_eqR] <;> rfl

def same12_dC : ((Int × (List Int) × (List Bool) × Unit) × (Int × (List Int) × (List Bool) × Unit) × Unit) → Option ((Bool × Unit)) := fun (a0, a1, _) =>
  match (!(ieqR a0.1 a1.1)) with
  | true => some (false, ())
  | false => match (!(ieqR (dlen a0.2.2.1) (dlen a1.2.2.1))) with
    | true => some (false, ())
    | false => match iterO same12_s0C many (a0.1, a0.2.1, a0.2.2.1, a1.1, a1.2.1, a1.2.2.1, (0 : Int), ()) with
      | none => none
      | some r => match r with
        | .inl (o0, _) => some (o0, ())
        | .inr r => match r with
          | .inl (o1, o2, o3, o4, o5, o6, _) => match words07C (o2, o5, ()) with
            | none => none
            | some (y7, _) => some (y7, ())
          | .inr _ => none

theorem same12_d_ceq : same12_d = same12_dC := by
  funext v
  simp only [same12_d, same12_dC, iterL_eq, ieq_eqR, words07_ceq, same12_s0_ceq] <;> rfl

def same12C (v : denL (leaves same12_i)) : Option (denL (leaves same12_o)) := same12_dC v

theorem same12_ceq : same12 = same12C := by
  funext v
  rw [same12_eq, same12_d_ceq]; rfl


-- archipelago/archipelagoref12.Rising
abbrev rising12_i : Items := [(.tmp 0, .dat (.slice (.int .u32)))]
abbrev rising12_o : Items := [(.tmp 0, .own 34 (.int .u32))]
abbrev rising12_r : List RS := [.one]
abbrev rising12_i1 : Items := [(.tmp 0, .dat (.slice (.int .u32))), (.tmp 3, .own 34 (.int .u32)), (.tmp 4, .dat (.int .i64)), (.tmp 5, .dat (.int .i64))]
abbrev rising12_o1 : Outs := [(.exit 2, [(.tmp 0, .dat (.slice (.int .u32))), (.tmp 3, .own 34 (.int .u32)), (.tmp 4, .dat (.int .i64)), (.tmp 5, .dat (.int .i64))])]
def rising12_s1 : (List Int × List Int × Int × Int × Unit) → Option ((List Int × List Int × Int × Int × Unit) ⊕ (List Int × List Int × Int × Int × Unit) ⊕ Unit) := fun (a0, a1, a2, a3, _) =>
  match (ilt a3 (dlen a1)) with
  | true => match idx a1 a3 with
    | none => none
    | some x0 => match idx a0 a2 with
      | none => none
      | some x1 => match (ilt (dget a1 (dnat a3) (0 : Int)) x1) with
        | true => some (.inl (a0, a1, a2, (IntKind.wrap .i64 (a3 + (1 : Int))), ()))
        | false => some (.inr (.inl (a0, a1, a2, a3, ())))
  | false => some (.inr (.inl (a0, a1, a2, a3, ())))
abbrev rising12_i0 : Items := [(.tmp 0, .dat (.slice (.int .u32))), (.tmp 3, .own 34 (.int .u32)), (.tmp 4, .dat (.int .i64))]
abbrev rising12_o0 : Outs := [(.exit 0, [(.tmp 3, .own 34 (.int .u32))])]
def rising12_s0 : (List Int × List Int × Int × Unit) → Option ((List Int × List Int × Int × Unit) ⊕ (List Int × Unit) ⊕ Unit) := fun (a0, a1, a2, _) =>
  match (ilt a2 (dlen a0)) with
  | true => match iterL rising12_s1 many (a0, a1, a2, (0 : Int), ()) with
    | none => none
    | some r => match r with
      | .inl (o0, o1, o2, o3, _) => match (ilt o3 (dlen o1)) with
        | true => match idx o1 o3 with
          | none => none
          | some x4 => match idx o0 o2 with
            | none => none
            | some x5 => match (ieq (dget o1 (dnat o3) (0 : Int)) x5) with
              | true => some (.inl (o0, o1, (IntKind.wrap .i64 (o2 + (1 : Int))), ()))
              | false => match subl o1 (0 : Int) o3 with
                | none => none
                | some x6 => match (fits ((dlen ([] : List (Int))) + (dlen (dcut 0 (dnat (dlen x6)) o1)))) with
                  | true => match idx o0 o2 with
                    | none => none
                    | some x7 => match (fits ((dlen (dapp ([] : List (Int)) (dcut 0 (dnat (dlen x6)) o1))) + (dlen ([x7] : List (Int))))) with
                      | true => match subl o1 o3 (dlen o1) with
                        | none => none
                        | some x8 => match (fits ((dlen (dapp (dapp ([] : List (Int)) (dcut 0 (dnat (dlen x6)) o1)) ([x7] : List (Int)))) + (dlen (dcut (dnat o3) (dnat (dlen x8)) o1)))) with
                          | true => some (.inl (o0, (dapp (dapp (dapp ([] : List (Int)) (dcut 0 (dnat (dlen x6)) o1)) ([x7] : List (Int))) (dcut (dnat o3) (dnat (dlen x8)) o1)), (IntKind.wrap .i64 (o2 + (1 : Int))), ()))
                          | false => none
                      | false => none
                  | false => none
        | false => match subl o1 (0 : Int) o3 with
          | none => none
          | some x9 => match (fits ((dlen ([] : List (Int))) + (dlen (dcut 0 (dnat (dlen x9)) o1)))) with
            | true => match idx o0 o2 with
              | none => none
              | some x10 => match (fits ((dlen (dapp ([] : List (Int)) (dcut 0 (dnat (dlen x9)) o1))) + (dlen ([x10] : List (Int))))) with
                | true => match subl o1 o3 (dlen o1) with
                  | none => none
                  | some x11 => match (fits ((dlen (dapp (dapp ([] : List (Int)) (dcut 0 (dnat (dlen x9)) o1)) ([x10] : List (Int)))) + (dlen (dcut (dnat o3) (dnat (dlen x11)) o1)))) with
                    | true => some (.inl (o0, (dapp (dapp (dapp ([] : List (Int)) (dcut 0 (dnat (dlen x9)) o1)) ([x10] : List (Int))) (dcut (dnat o3) (dnat (dlen x11)) o1)), (IntKind.wrap .i64 (o2 + (1 : Int))), ()))
                    | false => none
                | false => none
            | false => none
      | .inr _ => none
  | false => some (.inr (.inl (a1, ())))
def rising12_d : (List Int × Unit) → Option ((List Int × Unit)) := fun (a0, _) =>
  match iterL rising12_s0 many (a0, ([] : List (Int)), (0 : Int), ()) with
  | none => none
  | some r => match r with
    | .inl (o0, _) => some (o0, ())
    | .inr _ => none
def rising12 (v : (List Int × Unit)) : Option ((List Int × Unit)) := lock (rising12_d v)
theorem rising12_eq (v : (List Int × Unit)) : rising12 v = rising12_d v := lock_eq _
def rising12_s1C : (List Int × List Int × Int × Int × Unit) → Option ((List Int × List Int × Int × Int × Unit) ⊕ (List Int × List Int × Int × Int × Unit) ⊕ Unit) := fun (a0, a1, a2, a3, _) =>
  match (iltR a3 (dlen a1)) with
  | true => match idxR a1 a3 with
    | none => none
    | some x0 => match idxR a0 a2 with
      | none => none
      | some x1 => match (iltR (dget a1 (dnat a3) (0 : Int)) x1) with
        | true => some (.inl (a0, a1, a2, (IntKind.wrap .i64 (a3 + (1 : Int))), ()))
        | false => some (.inr (.inl (a0, a1, a2, a3, ())))
  | false => some (.inr (.inl (a0, a1, a2, a3, ())))

theorem rising12_s1_ceq : rising12_s1 = rising12_s1C := by
  funext v
  simp only [rising12_s1, rising12_s1C, idx_eq, ilt_eqR] <;> rfl

def rising12_s0C : (List Int × List Int × Int × Unit) → Option ((List Int × List Int × Int × Unit) ⊕ (List Int × Unit) ⊕ Unit) := fun (a0, a1, a2, _) =>
  match (iltR a2 (dlen a0)) with
  | true => match iterO rising12_s1C many (a0, a1, a2, (0 : Int), ()) with
    | none => none
    | some r => match r with
      | .inl (o0, o1, o2, o3, _) => match (iltR o3 (dlen o1)) with
        | true => match idxR o1 o3 with
          | none => none
          | some x4 => match idxR o0 o2 with
            | none => none
            | some x5 => match (ieqR (dget o1 (dnat o3) (0 : Int)) x5) with
              | true => some (.inl (o0, o1, (IntKind.wrap .i64 (o2 + (1 : Int))), ()))
              | false => match sublR o1 (0 : Int) o3 with
                | none => none
                | some x6 => match (fitsR ((dlen ([] : List (Int))) + (dlen (dcut 0 (dnat (dlen x6)) o1)))) with
                  | true => match idxR o0 o2 with
                    | none => none
                    | some x7 => match (fitsR ((dlen (dapp ([] : List (Int)) (dcut 0 (dnat (dlen x6)) o1))) + (dlen ([x7] : List (Int))))) with
                      | true => match sublR o1 o3 (dlen o1) with
                        | none => none
                        | some x8 => match (fitsR ((dlen (dapp (dapp ([] : List (Int)) (dcut 0 (dnat (dlen x6)) o1)) ([x7] : List (Int)))) + (dlen (dcut (dnat o3) (dnat (dlen x8)) o1)))) with
                          | true => some (.inl (o0, (dapp (dapp (dapp ([] : List (Int)) (dcut 0 (dnat (dlen x6)) o1)) ([x7] : List (Int))) (dcut (dnat o3) (dnat (dlen x8)) o1)), (IntKind.wrap .i64 (o2 + (1 : Int))), ()))
                          | false => none
                      | false => none
                  | false => none
        | false => match sublR o1 (0 : Int) o3 with
          | none => none
          | some x9 => match (fitsR ((dlen ([] : List (Int))) + (dlen (dcut 0 (dnat (dlen x9)) o1)))) with
            | true => match idxR o0 o2 with
              | none => none
              | some x10 => match (fitsR ((dlen (dapp ([] : List (Int)) (dcut 0 (dnat (dlen x9)) o1))) + (dlen ([x10] : List (Int))))) with
                | true => match sublR o1 o3 (dlen o1) with
                  | none => none
                  | some x11 => match (fitsR ((dlen (dapp (dapp ([] : List (Int)) (dcut 0 (dnat (dlen x9)) o1)) ([x10] : List (Int)))) + (dlen (dcut (dnat o3) (dnat (dlen x11)) o1)))) with
                    | true => some (.inl (o0, (dapp (dapp (dapp ([] : List (Int)) (dcut 0 (dnat (dlen x9)) o1)) ([x10] : List (Int))) (dcut (dnat o3) (dnat (dlen x11)) o1)), (IntKind.wrap .i64 (o2 + (1 : Int))), ()))
                    | false => none
                | false => none
            | false => none
      | .inr _ => none
  | false => some (.inr (.inl (a1, ())))

theorem rising12_s0_ceq : rising12_s0 = rising12_s0C := by
  funext v
  simp only [rising12_s0, rising12_s0C, idx_eq, subl_eq, fits_eq, iterL_eq, ilt_eqR, ieq_eqR, rising12_s1_ceq] <;> rfl

def rising12_dC : (List Int × Unit) → Option ((List Int × Unit)) := fun (a0, _) =>
  match iterO rising12_s0C many (a0, ([] : List (Int)), (0 : Int), ()) with
  | none => none
  | some r => match r with
    | .inl (o0, _) => some (o0, ())
    | .inr _ => none

theorem rising12_d_ceq : rising12_d = rising12_dC := by
  funext v
  simp only [rising12_d, rising12_dC, iterL_eq, rising12_s0_ceq] <;> rfl

def rising12C (v : denL (leaves rising12_i)) : Option (denL (leaves rising12_o)) := rising12_dC v

theorem rising12_ceq : rising12 = rising12C := by
  funext v
  rw [rising12_eq, rising12_d_ceq]; rfl


-- archipelago/archipelagoref12.Make
abbrev make12_i : Items := [(.tmp 0, .dat (.int .i64)), (.tmp 1, .dat (.slice (.int .u32)))]
abbrev make12_o : Items := [(.tmp 0, .dat (.int .i64)), (.tmp 1, .own 34 (.int .u32)), (.tmp 2, .own 4 .bool), (.tmp 3, .dat (.int .i64))]
abbrev make12_r : List RS := [.agg 3, .one]
abbrev make12_i1 : Items := [(.tmp 0, .dat (.int .i64)), (.tmp 4, .box 3), (.cell 0 0, .dat (.int .i64)), (.cell 0 1, .nil (.int .u32)), (.cell 0 2, .nil .bool), (.tmp 6, .dat (.int .i64)), (.tmp 7, .own 34 (.int .u32)), (.tmp 8, .box 3), (.cell 2 0, .dat (.int .i64)), (.cell 2 1, .own 34 (.int .u32)), (.cell 2 2, .own 4 .bool), (.tmp 9, .dat (.int .i64)), (.tmp 10, .dat (.int .i64))]
abbrev make12_o1 : Outs := [(.exit 2, [(.tmp 0, .dat (.int .i64)), (.tmp 4, .box 3), (.cell 0 0, .dat (.int .i64)), (.cell 0 1, .nil (.int .u32)), (.cell 0 2, .nil .bool), (.tmp 6, .dat (.int .i64)), (.tmp 7, .own 34 (.int .u32)), (.tmp 8, .box 3), (.cell 2 0, .dat (.int .i64)), (.cell 2 1, .own 34 (.int .u32)), (.cell 2 2, .own 4 .bool), (.tmp 9, .dat (.int .i64)), (.tmp 10, .dat (.int .i64))])]
def make12_s1 : (Int × Int × Int × List Int × Int × List Int × List Bool × Int × Int × Unit) → Option ((Int × Int × Int × List Int × Int × List Int × List Bool × Int × Int × Unit) ⊕ (Int × Int × Int × List Int × Int × List Int × List Bool × Int × Int × Unit) ⊕ Unit) := fun (a0, a1, a2, a3, a4, a5, a6, a7, a8, _) =>
  match idx a6 a8 with
  | none => none
  | some x0 => match (dget a6 (dnat a8) false) with
    | true => match rem? (IntKind.wrap .i64 (a8 + (1 : Int))) a2 with
      | none => none
      | some x1 => some (.inl (a0, a1, a2, a3, a4, a5, a6, a7, x1, ()))
    | false => some (.inr (.inl (a0, a1, a2, a3, a4, a5, a6, a7, a8, ())))
abbrev make12_i0 : Items := [(.tmp 0, .dat (.int .i64)), (.tmp 4, .box 3), (.cell 0 0, .dat (.int .i64)), (.cell 0 1, .nil (.int .u32)), (.cell 0 2, .nil .bool), (.tmp 6, .dat (.int .i64)), (.tmp 7, .own 34 (.int .u32)), (.tmp 8, .box 3), (.cell 2 0, .dat (.int .i64)), (.cell 2 1, .own 34 (.int .u32)), (.cell 2 2, .own 4 .bool), (.tmp 9, .dat (.int .i64))]
abbrev make12_o0 : Outs := [(.exit 0, [(.tmp 4, .box 3), (.cell 0 0, .dat (.int .i64)), (.cell 0 1, .nil (.int .u32)), (.cell 0 2, .nil .bool), (.tmp 8, .box 3), (.cell 1 0, .dat (.int .i64)), (.cell 1 1, .own 34 (.int .u32)), (.cell 1 2, .own 4 .bool)])]
def make12_s0 : (Int × Int × Int × List Int × Int × List Int × List Bool × Int × Unit) → Option ((Int × Int × Int × List Int × Int × List Int × List Bool × Int × Unit) ⊕ (Int × Int × List Int × List Bool × Unit) ⊕ Unit) := fun (a0, a1, a2, a3, a4, a5, a6, a7, _) =>
  match (ilt a7 (dlen a3)) with
  | true => match idx a3 a7 with
    | none => none
    | some x0 => match home12 (a0, (dget a3 (dnat a7) (0 : Int)), ()) with
      | none => none
      | some (y1, _) => match iterL make12_s1 many (a0, a1, a2, a3, a4, a5, a6, a7, y1, ()) with
        | none => none
        | some r => match r with
          | .inl (o2, o3, o4, o5, o6, o7, o8, o9, o10, _) => match idx o5 o9 with
            | none => none
            | some x11 => match idx o7 o10 with
              | none => none
              | some x12 => match idx o8 o10 with
                | none => none
                | some x13 => some (.inl (o2, o3, o4, o5, o6, (dset o7 (dnat o10) (dget o5 (dnat o9) (0 : Int))), (dset o8 (dnat o10) true), (IntKind.wrap .i64 (o9 + (1 : Int))), ()))
          | .inr _ => none
  | false => some (.inr (.inl (a1, a4, a5, a6, ())))
def make12_d : (Int × List Int × Unit) → Option ((Int × List Int × List Bool × Int × Unit)) := fun (a0, a1, _) =>
  match (ilt a0 (1 : Int)) with
  | true => some ((0 : Int), ([] : List (Int)), ([] : List (Bool)), (1 : Int), ())
  | false => match (ilt (10 : Int) a0) with
    | true => some ((0 : Int), ([] : List (Int)), ([] : List (Bool)), (1 : Int), ())
    | false => match shl? .i64 (1 : Int) (IntKind.wrap .u64 a0) with
      | none => none
      | some x0 => match rising12 (a1, ()) with
        | none => none
        | some (y1, _) => match quo? .i64 (IntKind.wrap .i64 (x0 * (3 : Int))) (4 : Int) with
          | none => none
          | some x2 => match (ilt x2 (dlen y1)) with
            | true => some ((0 : Int), ([] : List (Int)), ([] : List (Bool)), (2 : Int), ())
            | false => match (fitsI x0 && fitsI x0 && ile x0 x0 && true) with
              | true => match (fitsI x0 && fitsI x0 && ile x0 x0 && true) with
                | true => match iterL make12_s0 many (a0, (0 : Int), x0, y1, a0, (drep (dnat x0) (0 : Int)), (drep (dnat x0) false), (0 : Int), ()) with
                  | none => none
                  | some r => match r with
                    | .inl (o3, o4, o5, o6, _) => some (o4, o5, o6, (0 : Int), ())
                    | .inr _ => none
                | false => none
              | false => none
def make12 (v : (Int × List Int × Unit)) : Option ((Int × List Int × List Bool × Int × Unit)) := lock (make12_d v)
theorem make12_eq (v : (Int × List Int × Unit)) : make12 v = make12_d v := lock_eq _
def make12_s1C : (Int × Int × Int × List Int × Int × List Int × List Bool × Int × Int × Unit) → Option ((Int × Int × Int × List Int × Int × List Int × List Bool × Int × Int × Unit) ⊕ (Int × Int × Int × List Int × Int × List Int × List Bool × Int × Int × Unit) ⊕ Unit) := fun (a0, a1, a2, a3, a4, a5, a6, a7, a8, _) =>
  match idxR a6 a8 with
  | none => none
  | some x0 => match (dget a6 (dnat a8) false) with
    | true => match remR (IntKind.wrap .i64 (a8 + (1 : Int))) a2 with
      | none => none
      | some x1 => some (.inl (a0, a1, a2, a3, a4, a5, a6, a7, x1, ()))
    | false => some (.inr (.inl (a0, a1, a2, a3, a4, a5, a6, a7, a8, ())))

theorem make12_s1_ceq : make12_s1 = make12_s1C := by
  funext v
  simp only [make12_s1, make12_s1C, idx_eq, rem_eq] <;> rfl

def make12_s0C : (Int × Int × Int × List Int × Int × List Int × List Bool × Int × Unit) → Option ((Int × Int × Int × List Int × Int × List Int × List Bool × Int × Unit) ⊕ (Int × Int × List Int × List Bool × Unit) ⊕ Unit) := fun (a0, a1, a2, a3, a4, a5, a6, a7, _) =>
  match (iltR a7 (dlen a3)) with
  | true => match idxR a3 a7 with
    | none => none
    | some x0 => match home12C (a0, (dget a3 (dnat a7) (0 : Int)), ()) with
      | none => none
      | some (y1, _) => match iterO make12_s1C many (a0, a1, a2, a3, a4, a5, a6, a7, y1, ()) with
        | none => none
        | some r => match r with
          | .inl (o2, o3, o4, o5, o6, o7, o8, o9, o10, _) => match idxR o5 o9 with
            | none => none
            | some x11 => match idxR o7 o10 with
              | none => none
              | some x12 => match idxR o8 o10 with
                | none => none
                | some x13 => some (.inl (o2, o3, o4, o5, o6, (dset o7 (dnat o10) (dget o5 (dnat o9) (0 : Int))), (dset o8 (dnat o10) true), (IntKind.wrap .i64 (o9 + (1 : Int))), ()))
          | .inr _ => none
  | false => some (.inr (.inl (a1, a4, a5, a6, ())))

theorem make12_s0_ceq : make12_s0 = make12_s0C := by
  funext v
  simp only [make12_s0, make12_s0C, idx_eq, iterL_eq, ilt_eqR, home12_ceq, make12_s1_ceq] <;> rfl

def make12_dC : (Int × List Int × Unit) → Option ((Int × List Int × List Bool × Int × Unit)) := fun (a0, a1, _) =>
  match (iltR a0 (1 : Int)) with
  | true => some ((0 : Int), ([] : List (Int)), ([] : List (Bool)), (1 : Int), ())
  | false => match (iltR (10 : Int) a0) with
    | true => some ((0 : Int), ([] : List (Int)), ([] : List (Bool)), (1 : Int), ())
    | false => match shlR .i64 (1 : Int) (IntKind.wrap .u64 a0) with
      | none => none
      | some x0 => match rising12C (a1, ()) with
        | none => none
        | some (y1, _) => match quoR .i64 (IntKind.wrap .i64 (x0 * (3 : Int))) (4 : Int) with
          | none => none
          | some x2 => match (iltR x2 (dlen y1)) with
            | true => some ((0 : Int), ([] : List (Int)), ([] : List (Bool)), (2 : Int), ())
            | false => match (fitsIR x0 && fitsIR x0 && ileR x0 x0 && true) with
              | true => match (fitsIR x0 && fitsIR x0 && ileR x0 x0 && true) with
                | true => match iterO make12_s0C many (a0, (0 : Int), x0, y1, a0, (drep (dnat x0) (0 : Int)), (drep (dnat x0) false), (0 : Int), ()) with
                  | none => none
                  | some r => match r with
                    | .inl (o3, o4, o5, o6, _) => some (o4, o5, o6, (0 : Int), ())
                    | .inr _ => none
                | false => none
              | false => none

theorem make12_d_ceq : make12_d = make12_dC := by
  funext v
  simp only [make12_d, make12_dC, fitsI_eq, quo_eq, shl_eq, iterL_eq, ilt_eqR, ile_eqR, rising12_ceq, make12_s0_ceq] <;> rfl

def make12C (v : denL (leaves make12_i)) : Option (denL (leaves make12_o)) := make12_dC v

theorem make12_ceq : make12 = make12C := by
  funext v
  rw [make12_eq, make12_d_ceq]; rfl


-- archipelago/archipelagoref12.Keys
abbrev keys12_i : Items := [(.tmp 0, .dat (.prod (.int .i64) (.prod (.slice (.int .u32)) (.prod (.slice .bool) .unit))))]
abbrev keys12_o : Items := [(.tmp 0, .own 34 (.int .u32))]
abbrev keys12_r : List RS := [.one]
abbrev keys12_i0 : Items := [(.tmp 1, .box 3), (.cell 0 0, .dat (.int .i64)), (.cell 0 1, .dat (.slice (.int .u32))), (.cell 0 2, .dat (.slice .bool)), (.tmp 3, .own 34 (.int .u32)), (.tmp 4, .dat (.int .i64))]
abbrev keys12_o0 : Outs := [(.exit 0, [(.tmp 3, .own 34 (.int .u32))])]
def keys12_s0 : (Int × List Int × List Bool × List Int × Int × Unit) → Option ((Int × List Int × List Bool × List Int × Int × Unit) ⊕ (List Int × Unit) ⊕ Unit) := fun (a0, a1, a2, a3, a4, _) =>
  match (ilt a4 (dlen a2)) with
  | true => match (ilt a4 (dlen a1)) with
    | true => match idx a2 a4 with
      | none => none
      | some x0 => match x0 with
        | true => match idx a1 a4 with
          | none => none
          | some x1 => match (fits ((dlen a3) + (dlen ([x1] : List (Int))))) with
            | true => some (.inl (a0, a1, a2, (dapp a3 ([x1] : List (Int))), (IntKind.wrap .i64 (a4 + (1 : Int))), ()))
            | false => none
        | false => some (.inl (a0, a1, a2, a3, (IntKind.wrap .i64 (a4 + (1 : Int))), ()))
    | false => some (.inr (.inl (a3, ())))
  | false => some (.inr (.inl (a3, ())))
def keys12_d : ((Int × (List Int) × (List Bool) × Unit) × Unit) → Option ((List Int × Unit)) := fun (a0, _) =>
  match iterL keys12_s0 many (a0.1, a0.2.1, a0.2.2.1, ([] : List (Int)), (0 : Int), ()) with
  | none => none
  | some r => match r with
    | .inl (o0, _) => match rising12 (o0, ()) with
      | none => none
      | some (y1, _) => some (y1, ())
    | .inr _ => none
def keys12 (v : ((Int × (List Int) × (List Bool) × Unit) × Unit)) : Option ((List Int × Unit)) := lock (keys12_d v)
theorem keys12_eq (v : ((Int × (List Int) × (List Bool) × Unit) × Unit)) : keys12 v = keys12_d v := lock_eq _
def keys12_s0C : (Int × List Int × List Bool × List Int × Int × Unit) → Option ((Int × List Int × List Bool × List Int × Int × Unit) ⊕ (List Int × Unit) ⊕ Unit) := fun (a0, a1, a2, a3, a4, _) =>
  match (iltR a4 (dlen a2)) with
  | true => match (iltR a4 (dlen a1)) with
    | true => match idxR a2 a4 with
      | none => none
      | some x0 => match x0 with
        | true => match idxR a1 a4 with
          | none => none
          | some x1 => match (fitsR ((dlen a3) + (dlen ([x1] : List (Int))))) with
            | true => some (.inl (a0, a1, a2, (dapp a3 ([x1] : List (Int))), (IntKind.wrap .i64 (a4 + (1 : Int))), ()))
            | false => none
        | false => some (.inl (a0, a1, a2, a3, (IntKind.wrap .i64 (a4 + (1 : Int))), ()))
    | false => some (.inr (.inl (a3, ())))
  | false => some (.inr (.inl (a3, ())))

theorem keys12_s0_ceq : keys12_s0 = keys12_s0C := by
  funext v
  simp only [keys12_s0, keys12_s0C, idx_eq, fits_eq, ilt_eqR] <;> rfl

def keys12_dC : ((Int × (List Int) × (List Bool) × Unit) × Unit) → Option ((List Int × Unit)) := fun (a0, _) =>
  match iterO keys12_s0C many (a0.1, a0.2.1, a0.2.2.1, ([] : List (Int)), (0 : Int), ()) with
  | none => none
  | some r => match r with
    | .inl (o0, _) => match rising12C (o0, ()) with
      | none => none
      | some (y1, _) => some (y1, ())
    | .inr _ => none

theorem keys12_d_ceq : keys12_d = keys12_dC := by
  funext v
  simp only [keys12_d, keys12_dC, iterL_eq, rising12_ceq, keys12_s0_ceq] <;> rfl

def keys12C (v : denL (leaves keys12_i)) : Option (denL (leaves keys12_o)) := keys12_dC v

theorem keys12_ceq : keys12 = keys12C := by
  funext v
  rw [keys12_eq, keys12_d_ceq]; rfl


-- archipelago/archipelagoref12.Right
abbrev right12_i : Items := [(.tmp 0, .dat (.prod (.int .i64) (.prod (.slice (.int .u32)) (.prod (.slice .bool) .unit))))]
abbrev right12_o : Items := [(.tmp 0, .dat .bool)]
abbrev right12_r : List RS := [.one]
def right12_d : ((Int × (List Int) × (List Bool) × Unit) × Unit) → Option ((Bool × Unit)) := fun (a0, _) =>
  match keys12 ((a0.1, (a0.2.1, (a0.2.2.1, ()))), ()) with
  | none => none
  | some (y0, _) => match make12 (a0.1, y0, ()) with
    | none => none
    | some (y1, y2, y3, y4, _) => match (ieq y4 (0 : Int)) with
      | true => match same12 ((y1, (y2, (y3, ()))), (a0.1, (a0.2.1, (a0.2.2.1, ()))), ()) with
        | none => none
        | some (y5, _) => some (y5, ())
      | false => some (false, ())
def right12 (v : ((Int × (List Int) × (List Bool) × Unit) × Unit)) : Option ((Bool × Unit)) := lock (right12_d v)
theorem right12_eq (v : ((Int × (List Int) × (List Bool) × Unit) × Unit)) : right12 v = right12_d v := lock_eq _
def right12_dC : ((Int × (List Int) × (List Bool) × Unit) × Unit) → Option ((Bool × Unit)) := fun (a0, _) =>
  match keys12C ((a0.1, (a0.2.1, (a0.2.2.1, ()))), ()) with
  | none => none
  | some (y0, _) => match make12C (a0.1, y0, ()) with
    | none => none
    | some (y1, y2, y3, y4, _) => match (ieqR y4 (0 : Int)) with
      | true => match same12C ((y1, (y2, (y3, ()))), (a0.1, (a0.2.1, (a0.2.2.1, ()))), ()) with
        | none => none
        | some (y5, _) => some (y5, ())
      | false => some (false, ())

theorem right12_d_ceq : right12_d = right12_dC := by
  funext v
  simp only [right12_d, right12_dC, ieq_eqR, same12_ceq, make12_ceq, keys12_ceq] <;> rfl

def right12C (v : denL (leaves right12_i)) : Option (denL (leaves right12_o)) := right12_dC v

theorem right12_ceq : right12 = right12C := by
  funext v
  rw [right12_eq, right12_d_ceq]; rfl


-- archipelago/archipelagoref12.Find
abbrev find12_i : Items := [(.tmp 0, .dat (.prod (.int .i64) (.prod (.slice (.int .u32)) (.prod (.slice .bool) .unit)))), (.tmp 1, .dat (.int .u32))]
abbrev find12_o : Items := [(.tmp 0, .dat (.int .i64)), (.tmp 1, .dat (.int .i64)), (.tmp 2, .dat .bool)]
abbrev find12_r : List RS := [.one, .one, .one]
abbrev find12_i0 : Items := [(.tmp 1, .dat (.int .u32)), (.tmp 2, .box 3), (.cell 0 0, .dat (.int .i64)), (.cell 0 1, .dat (.slice (.int .u32))), (.cell 0 2, .dat (.slice .bool)), (.tmp 7, .dat (.int .i64)), (.tmp 8, .dat (.int .i64)), (.tmp 9, .dat (.int .i64))]
abbrev find12_o0 : Outs := [(.exit 0, [(.tmp 2, .box 3), (.cell 0 0, .dat (.int .i64)), (.cell 0 1, .dat (.slice (.int .u32))), (.cell 0 2, .dat (.slice .bool)), (.tmp 8, .dat (.int .i64)), (.tmp 9, .dat (.int .i64))])]
def find12_s0 : (Int × Int × List Int × List Bool × Int × Int × Int × Unit) → Option ((Int × Int × List Int × List Bool × Int × Int × Int × Unit) ⊕ (Int × List Int × List Bool × Int × Int × Unit) ⊕ Unit) := fun (a0, a1, a2, a3, a4, a5, a6, _) =>
  match idx a3 a5 with
  | none => none
  | some x0 => match x0 with
    | true => match idx a2 a5 with
      | none => none
      | some x1 => match (!(ieq x1 a0)) with
        | true => match rem? (IntKind.wrap .i64 (a5 + (1 : Int))) a4 with
          | none => none
          | some x2 => some (.inl (a0, a1, a2, a3, a4, x2, (IntKind.wrap .i64 (a6 + (1 : Int))), ()))
        | false => some (.inr (.inl (a1, a2, a3, a5, a6, ())))
    | false => some (.inr (.inl (a1, a2, a3, a5, a6, ())))
def find12_d : ((Int × (List Int) × (List Bool) × Unit) × Int × Unit) → Option ((Int × Int × Bool × Unit)) := fun (a0, a1, _) =>
  match right12 ((a0.1, (a0.2.1, (a0.2.2.1, ()))), ()) with
  | none => none
  | some (y0, _) => match (!y0) with
    | true => some ((0 : Int), (0 : Int), false, ())
    | false => match home12 (a0.1, a1, ()) with
      | none => none
      | some (y1, _) => match iterL find12_s0 many (a1, a0.1, a0.2.1, a0.2.2.1, (dlen a0.2.1), y1, (1 : Int), ()) with
        | none => none
        | some r => match r with
          | .inl (o2, o3, o4, o5, o6, _) => match idx o4 o5 with
            | none => none
            | some x7 => match (!x7) with
              | true => some ((0 : Int), o6, false, ())
              | false => some (o5, o6, true, ())
          | .inr _ => none
def find12 (v : ((Int × (List Int) × (List Bool) × Unit) × Int × Unit)) : Option ((Int × Int × Bool × Unit)) := lock (find12_d v)
theorem find12_eq (v : ((Int × (List Int) × (List Bool) × Unit) × Int × Unit)) : find12 v = find12_d v := lock_eq _
def find12_s0C : (Int × Int × List Int × List Bool × Int × Int × Int × Unit) → Option ((Int × Int × List Int × List Bool × Int × Int × Int × Unit) ⊕ (Int × List Int × List Bool × Int × Int × Unit) ⊕ Unit) := fun (a0, a1, a2, a3, a4, a5, a6, _) =>
  match idxR a3 a5 with
  | none => none
  | some x0 => match x0 with
    | true => match idxR a2 a5 with
      | none => none
      | some x1 => match (!(ieqR x1 a0)) with
        | true => match remR (IntKind.wrap .i64 (a5 + (1 : Int))) a4 with
          | none => none
          | some x2 => some (.inl (a0, a1, a2, a3, a4, x2, (IntKind.wrap .i64 (a6 + (1 : Int))), ()))
        | false => some (.inr (.inl (a1, a2, a3, a5, a6, ())))
    | false => some (.inr (.inl (a1, a2, a3, a5, a6, ())))

theorem find12_s0_ceq : find12_s0 = find12_s0C := by
  funext v
  simp only [find12_s0, find12_s0C, idx_eq, rem_eq, ieq_eqR] <;> rfl

def find12_dC : ((Int × (List Int) × (List Bool) × Unit) × Int × Unit) → Option ((Int × Int × Bool × Unit)) := fun (a0, a1, _) =>
  match right12C ((a0.1, (a0.2.1, (a0.2.2.1, ()))), ()) with
  | none => none
  | some (y0, _) => match (!y0) with
    | true => some ((0 : Int), (0 : Int), false, ())
    | false => match home12C (a0.1, a1, ()) with
      | none => none
      | some (y1, _) => match iterO find12_s0C many (a1, a0.1, a0.2.1, a0.2.2.1, (dlen a0.2.1), y1, (1 : Int), ()) with
        | none => none
        | some r => match r with
          | .inl (o2, o3, o4, o5, o6, _) => match idxR o4 o5 with
            | none => none
            | some x7 => match (!x7) with
              | true => some ((0 : Int), o6, false, ())
              | false => some (o5, o6, true, ())
          | .inr _ => none

theorem find12_d_ceq : find12_d = find12_dC := by
  funext v
  simp only [find12_d, find12_dC, idx_eq, iterL_eq, home12_ceq, right12_ceq, find12_s0_ceq] <;> rfl

def find12C (v : denL (leaves find12_i)) : Option (denL (leaves find12_o)) := find12_dC v

theorem find12_ceq : find12 = find12C := by
  funext v
  rw [find12_eq, find12_d_ceq]; rfl


-- archipelago/archipelagoref12.Put
abbrev put12_i : Items := [(.tmp 0, .dat (.prod (.int .i64) (.prod (.slice (.int .u32)) (.prod (.slice .bool) .unit)))), (.tmp 1, .dat (.slice (.int .u32)))]
abbrev put12_o : Items := [(.tmp 0, .dat (.int .i64)), (.tmp 1, .dat (.slice (.int .u32))), (.tmp 2, .dat (.slice .bool)), (.tmp 3, .dat (.int .i64))]
abbrev put12_r : List RS := [.agg 3, .one]
def put12_d : ((Int × (List Int) × (List Bool) × Unit) × List Int × Unit) → Option ((Int × List Int × List Bool × Int × Unit)) := fun (a0, a1, _) =>
  match right12 ((a0.1, (a0.2.1, (a0.2.2.1, ()))), ()) with
  | none => none
  | some (y0, _) => match (!y0) with
    | true => some (a0.1, a0.2.1, a0.2.2.1, (1 : Int), ())
    | false => match keys12 ((a0.1, (a0.2.1, (a0.2.2.1, ()))), ()) with
      | none => none
      | some (y1, _) => match (fits ((dlen y1) + (dlen a1))) with
        | true => match make12 (a0.1, (dapp y1 a1), ()) with
          | none => none
          | some (y2, y3, y4, y5, _) => match (!(ieq y5 (0 : Int))) with
            | true => some (a0.1, a0.2.1, a0.2.2.1, y5, ())
            | false => some (y2, y3, y4, (0 : Int), ())
        | false => none
def put12 (v : ((Int × (List Int) × (List Bool) × Unit) × List Int × Unit)) : Option ((Int × List Int × List Bool × Int × Unit)) := lock (put12_d v)
theorem put12_eq (v : ((Int × (List Int) × (List Bool) × Unit) × List Int × Unit)) : put12 v = put12_d v := lock_eq _
def put12_dC : ((Int × (List Int) × (List Bool) × Unit) × List Int × Unit) → Option ((Int × List Int × List Bool × Int × Unit)) := fun (a0, a1, _) =>
  match right12C ((a0.1, (a0.2.1, (a0.2.2.1, ()))), ()) with
  | none => none
  | some (y0, _) => match (!y0) with
    | true => some (a0.1, a0.2.1, a0.2.2.1, (1 : Int), ())
    | false => match keys12C ((a0.1, (a0.2.1, (a0.2.2.1, ()))), ()) with
      | none => none
      | some (y1, _) => match (fitsR ((dlen y1) + (dlen a1))) with
        | true => match make12C (a0.1, (dapp y1 a1), ()) with
          | none => none
          | some (y2, y3, y4, y5, _) => match (!(ieqR y5 (0 : Int))) with
            | true => some (a0.1, a0.2.1, a0.2.2.1, y5, ())
            | false => some (y2, y3, y4, (0 : Int), ())
        | false => none

theorem put12_d_ceq : put12_d = put12_dC := by
  funext v
  simp only [put12_d, put12_dC, fits_eq, ieq_eqR, make12_ceq, keys12_ceq, right12_ceq] <;> rfl

def put12C (v : denL (leaves put12_i)) : Option (denL (leaves put12_o)) := put12_dC v

theorem put12_ceq : put12 = put12C := by
  funext v
  rw [put12_eq, put12_d_ceq]; rfl


-- archipelago/archipelagoref12.Drop
abbrev drop12_i : Items := [(.tmp 0, .dat (.prod (.int .i64) (.prod (.slice (.int .u32)) (.prod (.slice .bool) .unit)))), (.tmp 1, .dat (.slice (.int .u32)))]
abbrev drop12_o : Items := [(.tmp 0, .dat (.int .i64)), (.tmp 1, .dat (.slice (.int .u32))), (.tmp 2, .dat (.slice .bool)), (.tmp 3, .dat (.int .i64))]
abbrev drop12_r : List RS := [.agg 3, .one]
def drop12_d : ((Int × (List Int) × (List Bool) × Unit) × List Int × Unit) → Option ((Int × List Int × List Bool × Int × Unit)) := fun (a0, a1, _) =>
  match right12 ((a0.1, (a0.2.1, (a0.2.2.1, ()))), ()) with
  | none => none
  | some (y0, _) => match (!y0) with
    | true => some (a0.1, a0.2.1, a0.2.2.1, (1 : Int), ())
    | false => match keys12 ((a0.1, (a0.2.1, (a0.2.2.1, ()))), ()) with
      | none => none
      | some (y1, _) => match without11 (y1, a1, ()) with
        | none => none
        | some (y2, _) => match make12 (a0.1, y2, ()) with
          | none => none
          | some (y3, y4, y5, y6, _) => some (y3, y4, y5, y6, ())
def drop12 (v : ((Int × (List Int) × (List Bool) × Unit) × List Int × Unit)) : Option ((Int × List Int × List Bool × Int × Unit)) := lock (drop12_d v)
theorem drop12_eq (v : ((Int × (List Int) × (List Bool) × Unit) × List Int × Unit)) : drop12 v = drop12_d v := lock_eq _
def drop12_dC : ((Int × (List Int) × (List Bool) × Unit) × List Int × Unit) → Option ((Int × List Int × List Bool × Int × Unit)) := fun (a0, a1, _) =>
  match right12C ((a0.1, (a0.2.1, (a0.2.2.1, ()))), ()) with
  | none => none
  | some (y0, _) => match (!y0) with
    | true => some (a0.1, a0.2.1, a0.2.2.1, (1 : Int), ())
    | false => match keys12C ((a0.1, (a0.2.1, (a0.2.2.1, ()))), ()) with
      | none => none
      | some (y1, _) => match without11C (y1, a1, ()) with
        | none => none
        | some (y2, _) => match make12C (a0.1, y2, ()) with
          | none => none
          | some (y3, y4, y5, y6, _) => some (y3, y4, y5, y6, ())

theorem drop12_d_ceq : drop12_d = drop12_dC := by
  funext v
  simp only [drop12_d, drop12_dC, without11_ceq, make12_ceq, keys12_ceq, right12_ceq] <;> rfl

def drop12C (v : denL (leaves drop12_i)) : Option (denL (leaves drop12_o)) := drop12_dC v

theorem drop12_ceq : drop12 = drop12C := by
  funext v
  rw [drop12_eq, drop12_d_ceq]; rfl


-- archipelago/archipelagolaw12.alive
abbrev alive12_i : Items := []
abbrev alive12_o : Items := [(.tmp 0, .dat .bool)]
abbrev alive12_r : List RS := [.one]
def alive12_d : (Unit) → Option ((Bool × Unit)) := fun _ =>
  match make ((2 : Int), ([(5 : Int), (5 : Int), (2 : Int)] : List (Int)), ()) with
  | none => none
  | some (y0, y1, y2, y3, _) => match make ((2 : Int), ([(1 : Int), (2 : Int), (3 : Int), (4 : Int)] : List (Int)), ()) with
    | none => none
    | some (y4, y5, y6, y7, _) => match put ((y0, (y1, (y2, ()))), ([(9 : Int)] : List (Int)), ()) with
      | none => none
      | some (y8, y9, y10, y11, _) => match drop ((y8, (y9, (y10, ()))), ([(2 : Int), (7 : Int)] : List (Int)), ()) with
        | none => none
        | some (y12, y13, y14, y15, _) => match find ((y12, (y13, (y14, ()))), (9 : Int), ()) with
          | none => none
          | some (y16, y17, y18, _) => match find ((y12, (y13, (y14, ()))), (2 : Int), ()) with
            | none => none
            | some (y19, y20, y21, _) => match make ((2 : Int), ([(9 : Int), (5 : Int)] : List (Int)), ()) with
              | none => none
              | some (y22, y23, y24, y25, _) => match (ieq y3 (0 : Int)) with
                | true => match (ieq y7 (2 : Int)) with
                  | true => match (ieq y11 (0 : Int)) with
                    | true => match (ieq y15 (0 : Int)) with
                      | true => match (ieq y25 (0 : Int)) with
                        | true => match y18 with
                          | true => match (!y21) with
                            | true => match (ile (1 : Int) y20) with
                              | true => match same12 ((y12, (y13, (y14, ()))), (y22, (y23, (y24, ()))), ()) with
                                | none => none
                                | some (y26, _) => match y26 with
                                  | true => match right ((y12, (y13, (y14, ()))), ()) with
                                    | none => none
                                    | some (y27, _) => match y27 with
                                      | true => match keys ((y8, (y9, (y10, ()))), ()) with
                                        | none => none
                                        | some (y28, _) => match words07 (y28, ([(2 : Int), (5 : Int), (9 : Int)] : List (Int)), ()) with
                                          | none => none
                                          | some (y29, _) => match y29 with
                                            | true => match home ((8 : Int), (1 : Int), ()) with
                                              | none => none
                                              | some (y30, _) => match (ieq y30 (158 : Int)) with
                                                | true => match home ((11 : Int), (1 : Int), ()) with
                                                  | none => none
                                                  | some (y31, _) => some ((ieq y31 (-1 : Int)), ())
                                                | false => some (false, ())
                                            | false => some (false, ())
                                      | false => some (false, ())
                                  | false => some (false, ())
                              | false => some (false, ())
                            | false => some (false, ())
                          | false => some (false, ())
                        | false => some (false, ())
                      | false => some (false, ())
                    | false => some (false, ())
                  | false => some (false, ())
                | false => some (false, ())
def alive12 (v : (Unit)) : Option ((Bool × Unit)) := lock (alive12_d v)
theorem alive12_eq (v : (Unit)) : alive12 v = alive12_d v := lock_eq _
def alive12_dC : (Unit) → Option ((Bool × Unit)) := fun _ =>
  match makeC ((2 : Int), ([(5 : Int), (5 : Int), (2 : Int)] : List (Int)), ()) with
  | none => none
  | some (y0, y1, y2, y3, _) => match makeC ((2 : Int), ([(1 : Int), (2 : Int), (3 : Int), (4 : Int)] : List (Int)), ()) with
    | none => none
    | some (y4, y5, y6, y7, _) => match putC ((y0, (y1, (y2, ()))), ([(9 : Int)] : List (Int)), ()) with
      | none => none
      | some (y8, y9, y10, y11, _) => match dropC ((y8, (y9, (y10, ()))), ([(2 : Int), (7 : Int)] : List (Int)), ()) with
        | none => none
        | some (y12, y13, y14, y15, _) => match findC ((y12, (y13, (y14, ()))), (9 : Int), ()) with
          | none => none
          | some (y16, y17, y18, _) => match findC ((y12, (y13, (y14, ()))), (2 : Int), ()) with
            | none => none
            | some (y19, y20, y21, _) => match makeC ((2 : Int), ([(9 : Int), (5 : Int)] : List (Int)), ()) with
              | none => none
              | some (y22, y23, y24, y25, _) => match (ieqR y3 (0 : Int)) with
                | true => match (ieqR y7 (2 : Int)) with
                  | true => match (ieqR y11 (0 : Int)) with
                    | true => match (ieqR y15 (0 : Int)) with
                      | true => match (ieqR y25 (0 : Int)) with
                        | true => match y18 with
                          | true => match (!y21) with
                            | true => match (ileR (1 : Int) y20) with
                              | true => match same12C ((y12, (y13, (y14, ()))), (y22, (y23, (y24, ()))), ()) with
                                | none => none
                                | some (y26, _) => match y26 with
                                  | true => match rightC ((y12, (y13, (y14, ()))), ()) with
                                    | none => none
                                    | some (y27, _) => match y27 with
                                      | true => match keysC ((y8, (y9, (y10, ()))), ()) with
                                        | none => none
                                        | some (y28, _) => match words07C (y28, ([(2 : Int), (5 : Int), (9 : Int)] : List (Int)), ()) with
                                          | none => none
                                          | some (y29, _) => match y29 with
                                            | true => match homeC ((8 : Int), (1 : Int), ()) with
                                              | none => none
                                              | some (y30, _) => match (ieqR y30 (158 : Int)) with
                                                | true => match homeC ((11 : Int), (1 : Int), ()) with
                                                  | none => none
                                                  | some (y31, _) => some ((ieqR y31 (-1 : Int)), ())
                                                | false => some (false, ())
                                            | false => some (false, ())
                                      | false => some (false, ())
                                  | false => some (false, ())
                              | false => some (false, ())
                            | false => some (false, ())
                          | false => some (false, ())
                        | false => some (false, ())
                      | false => some (false, ())
                    | false => some (false, ())
                  | false => some (false, ())
                | false => some (false, ())

theorem alive12_d_ceq : alive12_d = alive12_dC := by
  funext v
  simp only [alive12_d, alive12_dC, ile_eqR, ieq_eqR, home_ceq, make_ceq, keys_ceq, right_ceq, find_ceq, put_ceq, drop_ceq, words07_ceq, same12_ceq] <;> rfl

def alive12C (v : denL (leaves alive12_i)) : Option (denL (leaves alive12_o)) := alive12_dC v

theorem alive12_ceq : alive12 = alive12C := by
  funext v
  rw [alive12_eq, alive12_d_ceq]; rfl


-- archipelago/archipelagolaw12.TableAnswers
abbrev tableAnswers_i : Items := [(.tmp 0, .dat (.prod (.int .i64) (.prod (.slice (.int .u32)) (.prod (.slice .bool) .unit)))), (.tmp 1, .dat (.slice (.int .u32))), (.tmp 2, .dat (.int .i64))]
abbrev tableAnswers_o : Items := [(.tmp 0, .dat .bool)]
abbrev tableAnswers_r : List RS := [.one]
abbrev tableAnswers_i0 : Items := [(.tmp 1, .dat (.slice (.int .u32))), (.tmp 2, .dat (.int .i64)), (.tmp 3, .box 3), (.cell 0 0, .dat (.int .i64)), (.cell 0 1, .dat (.slice (.int .u32))), (.cell 0 2, .dat (.slice .bool)), (.tmp 7, .box 3), (.cell 1 0, .dat (.int .i64)), (.cell 1 1, .dat (.slice (.int .u32))), (.cell 1 2, .dat (.slice .bool)), (.tmp 8, .dat (.int .i64)), (.tmp 9, .box 3), (.cell 2 0, .dat (.int .i64)), (.cell 2 1, .dat (.slice (.int .u32))), (.cell 2 2, .dat (.slice .bool)), (.tmp 10, .dat (.int .i64)), (.tmp 11, .box 3), (.cell 3 0, .dat (.int .i64)), (.cell 3 1, .dat (.slice (.int .u32))), (.cell 3 2, .dat (.slice .bool)), (.tmp 12, .dat (.int .i64)), (.tmp 13, .box 3), (.cell 4 0, .dat (.int .i64)), (.cell 4 1, .dat (.slice (.int .u32))), (.cell 4 2, .dat (.slice .bool)), (.tmp 14, .dat (.int .i64)), (.tmp 15, .box 3), (.cell 5 0, .dat (.int .i64)), (.cell 5 1, .own 34 (.int .u32)), (.cell 5 2, .own 4 .bool), (.tmp 16, .dat (.int .i64)), (.tmp 17, .box 3), (.cell 8 0, .dat (.int .i64)), (.cell 8 1, .own 34 (.int .u32)), (.cell 8 2, .own 4 .bool), (.tmp 18, .dat (.int .i64)), (.tmp 19, .dat (.int .i64))]
abbrev tableAnswers_o0 : Outs := [(.ret, [(.tmp 6, .dat .bool)]), (.exit 0, [(.tmp 3, .box 3), (.cell 0 0, .dat (.int .i64)), (.cell 0 1, .dat (.slice (.int .u32))), (.cell 0 2, .dat (.slice .bool)), (.tmp 7, .box 3), (.cell 1 0, .dat (.int .i64)), (.cell 1 1, .dat (.slice (.int .u32))), (.cell 1 2, .dat (.slice .bool)), (.tmp 8, .dat (.int .i64)), (.tmp 9, .box 3), (.cell 2 0, .dat (.int .i64)), (.cell 2 1, .dat (.slice (.int .u32))), (.cell 2 2, .dat (.slice .bool)), (.tmp 10, .dat (.int .i64)), (.tmp 11, .box 3), (.cell 3 0, .dat (.int .i64)), (.cell 3 1, .dat (.slice (.int .u32))), (.cell 3 2, .dat (.slice .bool)), (.tmp 12, .dat (.int .i64)), (.tmp 13, .box 3), (.cell 4 0, .dat (.int .i64)), (.cell 4 1, .dat (.slice (.int .u32))), (.cell 4 2, .dat (.slice .bool)), (.tmp 14, .dat (.int .i64)), (.tmp 15, .box 3), (.cell 5 0, .dat (.int .i64)), (.cell 5 1, .own 34 (.int .u32)), (.cell 5 2, .own 4 .bool), (.tmp 16, .dat (.int .i64)), (.tmp 17, .box 3), (.cell 8 0, .dat (.int .i64)), (.cell 8 1, .own 34 (.int .u32)), (.cell 8 2, .own 4 .bool), (.tmp 18, .dat (.int .i64))])]
def tableAnswers_s0 : (List Int × Int × Int × List Int × List Bool × Int × List Int × List Bool × Int × Int × List Int × List Bool × Int × Int × List Int × List Bool × Int × Int × List Int × List Bool × Int × Int × List Int × List Bool × Int × Int × List Int × List Bool × Int × Int × Unit) → Option ((List Int × Int × Int × List Int × List Bool × Int × List Int × List Bool × Int × Int × List Int × List Bool × Int × Int × List Int × List Bool × Int × Int × List Int × List Bool × Int × Int × List Int × List Bool × Int × Int × List Int × List Bool × Int × Int × Unit) ⊕ (Bool × Unit) ⊕ (Int × List Int × List Bool × Int × List Int × List Bool × Int × Int × List Int × List Bool × Int × Int × List Int × List Bool × Int × Int × List Int × List Bool × Int × Int × List Int × List Bool × Int × Int × List Int × List Bool × Int × Unit) ⊕ Unit) := fun (a0, a1, a2, a3, a4, a5, a6, a7, a8, a9, a10, a11, a12, a13, a14, a15, a16, a17, a18, a19, a20, a21, a22, a23, a24, a25, a26, a27, a28, a29, _) =>
  match (ilt a29 (dlen a0)) with
  | true => match idx a0 a29 with
    | none => none
    | some x0 => match find ((a2, (a3, (a4, ()))), x0, ()) with
      | none => none
      | some (y1, y2, y3, _) => match idx a0 a29 with
        | none => none
        | some x4 => match find12 ((a2, (a3, (a4, ()))), x4, ()) with
          | none => none
          | some (y5, y6, y7, _) => match (!(ieq y1 y5)) with
            | true => some (.inr (.inl (false, ())))
            | false => match (!(ieq y2 y6)) with
              | true => some (.inr (.inl (false, ())))
              | false => match (!(y3 == y7)) with
                | true => some (.inr (.inl (false, ())))
                | false => match idx a0 a29 with
                  | none => none
                  | some x8 => match home (a1, x8, ()) with
                    | none => none
                    | some (y9, _) => match idx a0 a29 with
                      | none => none
                      | some x10 => match home12 (a1, x10, ()) with
                        | none => none
                        | some (y11, _) => match (!(ieq y9 y11)) with
                          | true => some (.inr (.inl (false, ())))
                          | false => some (.inl (a0, a1, a2, a3, a4, a5, a6, a7, a8, a9, a10, a11, a12, a13, a14, a15, a16, a17, a18, a19, a20, a21, a22, a23, a24, a25, a26, a27, a28, (IntKind.wrap .i64 (a29 + (1 : Int))), ()))
  | false => some (.inr (.inr (.inl (a2, a3, a4, a5, a6, a7, a8, a9, a10, a11, a12, a13, a14, a15, a16, a17, a18, a19, a20, a21, a22, a23, a24, a25, a26, a27, a28, ()))))
def tableAnswers_d : ((Int × (List Int) × (List Bool) × Unit) × List Int × Int × Unit) → Option ((Bool × Unit)) := fun (a0, a1, a2, _) =>
  match alive12 () with
  | none => none
  | some (y0, _) => match (!y0) with
    | true => some (false, ())
    | false => match great12 ((a0.1, (a0.2.1, (a0.2.2.1, ()))), ()) with
      | none => none
      | some (y1, _) => match y1 with
        | true => some (true, ())
        | false => match (ilt (60 : Int) (dlen a1)) with
          | true => some (true, ())
          | false => match put ((a0.1, (a0.2.1, (a0.2.2.1, ()))), a1, ()) with
            | none => none
            | some (y2, y3, y4, y5, _) => match put12 ((a0.1, (a0.2.1, (a0.2.2.1, ()))), a1, ()) with
              | none => none
              | some (y6, y7, y8, y9, _) => match drop ((a0.1, (a0.2.1, (a0.2.2.1, ()))), a1, ()) with
                | none => none
                | some (y10, y11, y12, y13, _) => match drop12 ((a0.1, (a0.2.1, (a0.2.2.1, ()))), a1, ()) with
                  | none => none
                  | some (y14, y15, y16, y17, _) => match make (a2, a1, ()) with
                    | none => none
                    | some (y18, y19, y20, y21, _) => match make12 (a2, a1, ()) with
                      | none => none
                      | some (y22, y23, y24, y25, _) => match iterL tableAnswers_s0 many (a1, a2, a0.1, a0.2.1, a0.2.2.1, y2, y3, y4, y5, y6, y7, y8, y9, y10, y11, y12, y13, y14, y15, y16, y17, y18, y19, y20, y21, y22, y23, y24, y25, (0 : Int), ()) with
                        | none => none
                        | some r => match r with
                          | .inl (o26, _) => some (o26, ())
                          | .inr r => match r with
                            | .inl (o27, o28, o29, o30, o31, o32, o33, o34, o35, o36, o37, o38, o39, o40, o41, o42, o43, o44, o45, o46, o47, o48, o49, o50, o51, o52, o53, _) => match same12 ((o30, (o31, (o32, ()))), (o34, (o35, (o36, ()))), ()) with
                              | none => none
                              | some (y54, _) => match y54 with
                                | true => match (ieq o33 o37) with
                                  | true => match same12 ((o38, (o39, (o40, ()))), (o42, (o43, (o44, ()))), ()) with
                                    | none => none
                                    | some (y55, _) => match y55 with
                                      | true => match (ieq o41 o45) with
                                        | true => match same12 ((o46, (o47, (o48, ()))), (o50, (o51, (o52, ()))), ()) with
                                          | none => none
                                          | some (y56, _) => match y56 with
                                            | true => match (ieq o49 o53) with
                                              | true => match right ((o27, (o28, (o29, ()))), ()) with
                                                | none => none
                                                | some (y57, _) => match right12 ((o27, (o28, (o29, ()))), ()) with
                                                  | none => none
                                                  | some (y58, _) => match (y57 == y58) with
                                                    | true => match keys ((o27, (o28, (o29, ()))), ()) with
                                                      | none => none
                                                      | some (y59, _) => match keys12 ((o27, (o28, (o29, ()))), ()) with
                                                        | none => none
                                                        | some (y60, _) => match words07 (y59, y60, ()) with
                                                          | none => none
                                                          | some (y61, _) => some (y61, ())
                                                    | false => some (false, ())
                                              | false => some (false, ())
                                            | false => some (false, ())
                                        | false => some (false, ())
                                      | false => some (false, ())
                                  | false => some (false, ())
                                | false => some (false, ())
                            | .inr _ => none
def tableAnswers (v : ((Int × (List Int) × (List Bool) × Unit) × List Int × Int × Unit)) : Option ((Bool × Unit)) := lock (tableAnswers_d v)
theorem tableAnswers_eq (v : ((Int × (List Int) × (List Bool) × Unit) × List Int × Int × Unit)) : tableAnswers v = tableAnswers_d v := lock_eq _

-- archipelago/archipelagolaw12.TableSet
abbrev tableSet_i : Items := [(.tmp 0, .dat (.int .u8)), (.tmp 1, .dat (.slice (.int .u32))), (.tmp 2, .dat (.slice (.int .u32)))]
abbrev tableSet_o : Items := [(.tmp 0, .dat .bool)]
abbrev tableSet_r : List RS := [.one]
abbrev tableSet_i2 : Items := [(.tmp 8, .box 3), (.cell 0 0, .dat (.int .i64)), (.cell 0 1, .dat (.slice (.int .u32))), (.cell 0 2, .dat (.slice .bool)), (.tmp 13, .own 34 (.int .u32)), (.tmp 21, .own 34 (.int .u32)), (.tmp 22, .dat (.int .i64))]
abbrev tableSet_o2 : Outs := [(.ret, [(.tmp 6, .dat .bool)]), (.exit 4, [])]
def tableSet_s2 : (Int × List Int × List Bool × List Int × List Int × Int × Unit) → Option ((Int × List Int × List Bool × List Int × List Int × Int × Unit) ⊕ (Bool × Unit) ⊕ (Unit) ⊕ Unit) := fun (a0, a1, a2, a3, a4, a5, _) =>
  match (ilt a5 (dlen a3)) with
  | true => match idx a3 a5 with
    | none => none
    | some x0 => match find ((a0, (a1, (a2, ()))), (dget a3 (dnat a5) (0 : Int)), ()) with
      | none => none
      | some (y1, y2, y3, _) => match idx a3 a5 with
        | none => none
        | some x4 => match has11 (a4, (dget a3 (dnat a5) (0 : Int)), ()) with
          | none => none
          | some (y5, _) => match (!(y3 == y5)) with
            | true => some (.inr (.inl (false, ())))
            | false => match (ilt y2 (1 : Int)) with
              | true => some (.inr (.inl (false, ())))
              | false => match (ilt (dlen a1) y2) with
                | true => some (.inr (.inl (false, ())))
                | false => match y3 with
                  | true => match (ilt y1 (0 : Int)) with
                    | true => some (.inr (.inl (false, ())))
                    | false => match (ile (dlen a1) y1) with
                      | true => some (.inr (.inl (false, ())))
                      | false => match idx a1 y1 with
                        | none => none
                        | some x6 => match idx a3 a5 with
                          | none => none
                          | some x7 => match (!(ieq x6 (dget a3 (dnat a5) (0 : Int)))) with
                            | true => some (.inr (.inl (false, ())))
                            | false => some (.inl (a0, a1, a2, a3, a4, (IntKind.wrap .i64 (a5 + (1 : Int))), ()))
                  | false => some (.inl (a0, a1, a2, a3, a4, (IntKind.wrap .i64 (a5 + (1 : Int))), ()))
  | false => some (.inr (.inr (.inl ())))
abbrev tableSet_i1 : Items := [(.tmp 2, .dat (.slice (.int .u32))), (.tmp 8, .box 3), (.cell 0 0, .dat (.int .i64)), (.cell 0 1, .dat (.slice (.int .u32))), (.cell 0 2, .dat (.slice .bool)), (.tmp 13, .own 34 (.int .u32)), (.tmp 14, .box 3), (.cell 2 0, .dat (.int .i64)), (.cell 2 1, .own 34 (.int .u32)), (.cell 2 2, .own 4 .bool), (.tmp 16, .dat (.int .i64))]
abbrev tableSet_o1 : Outs := [(.ret, [(.tmp 6, .dat .bool)]), (.exit 2, [(.tmp 2, .dat (.slice (.int .u32))), (.tmp 8, .box 3), (.cell 0 0, .dat (.int .i64)), (.cell 0 1, .dat (.slice (.int .u32))), (.cell 0 2, .dat (.slice .bool)), (.tmp 13, .own 34 (.int .u32)), (.tmp 14, .box 3), (.cell 2 0, .dat (.int .i64)), (.cell 2 1, .own 34 (.int .u32)), (.cell 2 2, .own 4 .bool)])]
def tableSet_s1 : (List Int × Int × List Int × List Bool × List Int × Int × List Int × List Bool × Int × Unit) → Option ((List Int × Int × List Int × List Bool × List Int × Int × List Int × List Bool × Int × Unit) ⊕ (Bool × Unit) ⊕ (List Int × Int × List Int × List Bool × List Int × Int × List Int × List Bool × Unit) ⊕ Unit) := fun (a0, a1, a2, a3, a4, a5, a6, a7, a8, _) =>
  match (ilt a8 (dlen a0)) with
  | true => match subl a0 a8 (IntKind.wrap .i64 (a8 + (1 : Int))) with
    | none => none
    | some x0 => match drop ((a1, (a2, (a3, ()))), x0, ()) with
      | none => none
      | some (y1, y2, y3, y4, _) => match (!(ieq y4 (0 : Int))) with
        | true => some (.inr (.inl (false, ())))
        | false => some (.inl (a0, y1, y2, y3, a4, a5, a6, a7, (IntKind.wrap .i64 (a8 + (1 : Int))), ()))
  | false => some (.inr (.inr (.inl (a0, a1, a2, a3, a4, a5, a6, a7, ()))))
abbrev tableSet_i0 : Items := [(.tmp 1, .dat (.slice (.int .u32))), (.tmp 2, .dat (.slice (.int .u32))), (.tmp 7, .dat (.int .i64)), (.tmp 8, .box 3), (.cell 0 0, .dat (.int .i64)), (.cell 0 1, .dat (.slice (.int .u32))), (.cell 0 2, .dat (.slice .bool)), (.tmp 10, .dat (.int .i64))]
abbrev tableSet_o0 : Outs := [(.ret, [(.tmp 6, .dat .bool)]), (.exit 0, [(.tmp 2, .dat (.slice (.int .u32))), (.tmp 7, .dat (.int .i64)), (.tmp 8, .box 3), (.cell 0 0, .dat (.int .i64)), (.cell 0 1, .dat (.slice (.int .u32))), (.cell 0 2, .dat (.slice .bool))])]
def tableSet_s0 : (List Int × List Int × Int × Int × List Int × List Bool × Int × Unit) → Option ((List Int × List Int × Int × Int × List Int × List Bool × Int × Unit) ⊕ (Bool × Unit) ⊕ (List Int × Int × Int × List Int × List Bool × Unit) ⊕ Unit) := fun (a0, a1, a2, a3, a4, a5, a6, _) =>
  match (ilt a6 (dlen a0)) with
  | true => match subl a0 a6 (IntKind.wrap .i64 (a6 + (1 : Int))) with
    | none => none
    | some x0 => match put ((a3, (a4, (a5, ()))), x0, ()) with
      | none => none
      | some (y1, y2, y3, y4, _) => match (ieq y4 (0 : Int)) with
        | true => some (.inl (a0, a1, a2, y1, y2, y3, (IntKind.wrap .i64 (a6 + (1 : Int))), ()))
        | false => match (!(ieq y4 (2 : Int))) with
          | true => some (.inr (.inl (false, ())))
          | false => match same12 ((y1, (y2, (y3, ()))), (a3, (a4, (a5, ()))), ()) with
            | none => none
            | some (y5, _) => match (!y5) with
              | true => some (.inr (.inl (false, ())))
              | false => some (.inl (a0, a1, a2, a3, a4, a5, (IntKind.wrap .i64 (a6 + (1 : Int))), ()))
  | false => some (.inr (.inr (.inl (a1, a2, a3, a4, a5, ()))))
def tableSet_d : (Int × List Int × List Int × Unit) → Option ((Bool × Unit)) := fun (a0, a1, a2, _) =>
  match alive12 () with
  | none => none
  | some (y0, _) => match (!y0) with
    | true => some (false, ())
    | false => match (ilt (30 : Int) (dlen a1)) with
      | true => some (true, ())
      | false => match (ilt (30 : Int) (dlen a2)) with
        | true => some (true, ())
        | false => match rem? (IntKind.wrap .i64 a0) (6 : Int) with
          | none => none
          | some x1 => match make ((IntKind.wrap .i64 ((1 : Int) + x1)), ([] : List (Int)), ()) with
            | none => none
            | some (y2, y3, y4, y5, _) => match (!(ieq y5 (0 : Int))) with
              | true => some (false, ())
              | false => match iterL tableSet_s0 many (a1, a2, (IntKind.wrap .i64 ((1 : Int) + x1)), y2, y3, y4, (0 : Int), ()) with
                | none => none
                | some r => match r with
                  | .inl (o6, _) => some (o6, ())
                  | .inr r => match r with
                    | .inl (o7, o8, o9, o10, o11, _) => match keys ((o9, (o10, (o11, ()))), ()) with
                      | none => none
                      | some (y12, _) => match make (o8, y12, ()) with
                        | none => none
                        | some (y13, y14, y15, y16, _) => match (!(ieq y16 (0 : Int))) with
                          | true => some (false, ())
                          | false => match same12 ((y13, (y14, (y15, ()))), (o9, (o10, (o11, ()))), ()) with
                            | none => none
                            | some (y17, _) => match (!y17) with
                              | true => some (false, ())
                              | false => match iterL tableSet_s1 many (o7, o9, o10, o11, y12, y13, y14, y15, (0 : Int), ()) with
                                | none => none
                                | some r => match r with
                                  | .inl (o18, _) => some (o18, ())
                                  | .inr r => match r with
                                    | .inl (o19, o20, o21, o22, o23, o24, o25, o26, _) => match drop ((o24, (o25, (o26, ()))), o19, ()) with
                                      | none => none
                                      | some (y27, y28, y29, y30, _) => match without11 (o23, o19, ()) with
                                        | none => none
                                        | some (y31, _) => match (!(ieq y30 (0 : Int))) with
                                          | true => some (false, ())
                                          | false => match same12 ((y27, (y28, (y29, ()))), (o20, (o21, (o22, ()))), ()) with
                                            | none => none
                                            | some (y32, _) => match (!y32) with
                                              | true => some (false, ())
                                              | false => match keys ((o20, (o21, (o22, ()))), ()) with
                                                | none => none
                                                | some (y33, _) => match words07 (y33, y31, ()) with
                                                  | none => none
                                                  | some (y34, _) => match (!y34) with
                                                    | true => some (false, ())
                                                    | false => match iterL tableSet_s2 many (o20, o21, o22, o23, y31, (0 : Int), ()) with
                                                      | none => none
                                                      | some r => match r with
                                                        | .inl (o35, _) => some (o35, ())
                                                        | .inr r => match r with
                                                          | .inl _ => some (true, ())
                                                          | .inr _ => none
                                    | .inr _ => none
                    | .inr _ => none
def tableSet (v : (Int × List Int × List Int × Unit)) : Option ((Bool × Unit)) := lock (tableSet_d v)
theorem tableSet_eq (v : (Int × List Int × List Int × Unit)) : tableSet v = tableSet_d v := lock_eq _

-- archipelago/archipelagolaw12.TableNear
abbrev tableNear_i : Items := [(.tmp 0, .dat (.int .u8)), (.tmp 1, .dat (.slice (.int .u32))), (.tmp 2, .dat (.int .u32))]
abbrev tableNear_o : Items := [(.tmp 0, .dat .bool)]
abbrev tableNear_r : List RS := [.one]
abbrev tableNear_i1 : Items := [(.tmp 1, .dat (.slice (.int .u32))), (.tmp 7, .box 3), (.cell 0 0, .dat (.int .i64)), (.cell 0 1, .own 34 (.int .u32)), (.cell 0 2, .own 4 .bool), (.tmp 9, .own 34 (.int .u32)), (.tmp 10, .dat (.int .i64)), (.tmp 11, .dat (.int .i64)), (.tmp 12, .dat (.int .i64)), (.tmp 13, .dat (.int .i64)), (.tmp 14, .dat .bool), (.tmp 15, .dat (.int .i64)), (.tmp 16, .dat (.int .i64)), (.tmp 82, .dat (.int .i64)), (.tmp 83, .dat (.int .i64)), (.tmp 84, .dat .bool), (.tmp 87, .dat (.int .i64)), (.tmp 88, .dat .bool), (.tmp 91, .dat (.int .i64)), (.tmp 92, .dat (.int .i64)), (.tmp 93, .dat .bool), (.tmp 96, .dat .bool), (.tmp 97, .dat .bool), (.tmp 98, .dat .bool), (.tmp 103, .dat .bool), (.tmp 106, .dat .bool), (.tmp 107, .dat (.slice (.int .u32))), (.tmp 108, .own' 3), (.tmp 109, .dat (.int .i64)), (.tmp 111, .dat (.int .u32)), (.tmp 112, .dat .bool), (.tmp 113, .dat .bool)]
abbrev tableNear_o1 : Outs := [(.ret, [(.tmp 6, .dat .bool)]), (.exit 2, [(.tmp 1, .dat (.slice (.int .u32))), (.tmp 7, .box 3), (.cell 0 0, .dat (.int .i64)), (.cell 0 1, .own 34 (.int .u32)), (.cell 0 2, .own 4 .bool), (.tmp 9, .own 34 (.int .u32)), (.tmp 10, .dat (.int .i64)), (.tmp 11, .dat (.int .i64)), (.tmp 12, .dat (.int .i64)), (.tmp 13, .dat (.int .i64)), (.tmp 14, .dat .bool), (.tmp 15, .dat (.int .i64)), (.tmp 82, .dat (.int .i64)), (.tmp 83, .dat (.int .i64)), (.tmp 84, .dat .bool), (.tmp 87, .dat (.int .i64)), (.tmp 88, .dat .bool), (.tmp 91, .dat (.int .i64)), (.tmp 92, .dat (.int .i64)), (.tmp 93, .dat .bool), (.tmp 96, .dat .bool), (.tmp 97, .dat .bool), (.tmp 98, .dat .bool), (.tmp 103, .dat .bool), (.tmp 106, .dat .bool), (.tmp 107, .dat (.slice (.int .u32))), (.tmp 108, .own' 3), (.tmp 109, .dat (.int .i64)), (.tmp 111, .dat (.int .u32)), (.tmp 112, .dat .bool), (.tmp 113, .dat .bool)])]
def tableNear_s1 : (List Int × Int × List Int × List Bool × List Int × Int × Int × Int × Int × Bool × Int × Int × Int × Int × Bool × Int × Bool × Int × Int × Bool × Bool × Bool × Bool × Bool × Bool × List Int × Int × Int × Bool × Bool × Unit) → Option ((List Int × Int × List Int × List Bool × List Int × Int × Int × Int × Int × Bool × Int × Int × Int × Int × Bool × Int × Bool × Int × Int × Bool × Bool × Bool × Bool × Bool × Bool × List Int × Int × Int × Bool × Bool × Unit) ⊕ (Bool × Unit) ⊕ (List Int × Int × List Int × List Bool × List Int × Int × Int × Int × Int × Bool × Int × Int × Int × Bool × Int × Bool × Int × Int × Bool × Bool × Bool × Bool × Bool × Bool × List Int × Int × Int × Bool × Bool × Unit) ⊕ Unit) := fun (a0, a1, a2, a3, a4, a5, a6, a7, a8, a9, a10, a11, a12, a13, a14, a15, a16, a17, a18, a19, a20, a21, a22, a23, a24, a25, a26, a27, a28, a29, _) =>
  match (ilt a11 (IntKind.wrap .i64 (a8 - (1 : Int)))) with
  | true => match rem? (IntKind.wrap .i64 (a10 + a11)) a5 with
    | none => none
    | some x0 => match idx a3 x0 with
      | none => none
      | some x1 => match (!(dget a3 (dnat x0) false)) with
        | true => some (.inr (.inl (false, ())))
        | false => match rem? (IntKind.wrap .i64 (a10 + a11)) a5 with
          | none => none
          | some x2 => match idx a2 x2 with
            | none => none
            | some x3 => match idx a4 a6 with
              | none => none
              | some x4 => match (ieq (dget a2 (dnat x2) (0 : Int)) (dget a4 (dnat a6) (0 : Int))) with
                | true => some (.inr (.inl (false, ())))
                | false => some (.inl (a0, a1, a2, a3, a4, a5, a6, a7, a8, a9, a10, (IntKind.wrap .i64 (a11 + (1 : Int))), a12, a13, a14, a15, a16, a17, a18, a19, a20, a21, a22, a23, a24, a25, a26, a27, a28, a29, ()))
  | false => some (.inr (.inr (.inl (a0, a1, a2, a3, a4, a5, a6, a7, a8, a9, a10, a12, a13, a14, a15, a16, a17, a18, a19, a20, a21, a22, a23, a24, a25, a26, a27, a28, a29, ()))))
abbrev tableNear_i0 : Items := [(.tmp 1, .dat (.slice (.int .u32))), (.tmp 7, .box 3), (.cell 0 0, .dat (.int .i64)), (.cell 0 1, .own 34 (.int .u32)), (.cell 0 2, .own 4 .bool), (.tmp 9, .own 34 (.int .u32)), (.tmp 10, .dat (.int .i64)), (.tmp 11, .dat (.int .i64))]
abbrev tableNear_o0 : Outs := [(.ret, [(.tmp 6, .dat .bool)]), (.exit 0, [])]
def tableNear_s0 : (List Int × Int × List Int × List Bool × List Int × Int × Int × Unit) → Option ((List Int × Int × List Int × List Bool × List Int × Int × Int × Unit) ⊕ (Bool × Unit) ⊕ (Unit) ⊕ Unit) := fun (a0, a1, a2, a3, a4, a5, a6, _) =>
  match (ilt a6 (dlen a4)) with
  | true => match idx a4 a6 with
    | none => none
    | some x0 => match find ((a1, (a2, (a3, ()))), (dget a4 (dnat a6) (0 : Int)), ()) with
      | none => none
      | some (y1, y2, y3, _) => match idx a4 a6 with
        | none => none
        | some x4 => match home (a1, (dget a4 (dnat a6) (0 : Int)), ()) with
          | none => none
          | some (y5, _) => match (ilt y5 (0 : Int)) with
            | true => some (.inr (.inl (false, ())))
            | false => match (ile a5 y5) with
              | true => some (.inr (.inl (false, ())))
              | false => match (ilt y2 (1 : Int)) with
                | true => some (.inr (.inl (false, ())))
                | false => match (ilt a5 y2) with
                  | true => some (.inr (.inl (false, ())))
                  | false => match (!y3) with
                    | true => match (ilt a6 (dlen a0)) with
                      | true => some (.inr (.inl (false, ())))
                      | false => match idx a4 a6 with
                        | none => none
                        | some x6 => match has11 (a0, (dget a4 (dnat a6) (0 : Int)), ()) with
                          | none => none
                          | some (y7, _) => match (!(y3 == y7)) with
                            | true => some (.inr (.inl (false, ())))
                            | false => match iterL tableNear_s1 many (a0, a1, a2, a3, a4, a5, a6, y1, y2, y3, y5, (0 : Int), y5, a5, (ile a5 y5), y2, (ilt y2 (1 : Int)), y2, a5, (ilt a5 y2), y3, (!y3), true, (ilt a6 (dlen a0)), y3, a0, a6, (dget a4 (dnat a6) (0 : Int)), y7, (!(y3 == y7)), ()) with
                              | none => none
                              | some r => match r with
                                | .inl (o8, _) => some (.inr (.inl (o8, ())))
                                | .inr r => match r with
                                  | .inl (o9, o10, o11, o12, o13, o14, o15, o16, o17, o18, o19, o20, o21, o22, o23, o24, o25, o26, o27, o28, o29, o30, o31, o32, o33, o34, o35, o36, o37, _) => match rem? (IntKind.wrap .i64 ((IntKind.wrap .i64 (o19 + o17)) - (1 : Int))) o14 with
                                    | none => none
                                    | some x38 => match o18 with
                                      | true => match (!(ieq o16 x38)) with
                                        | true => some (.inr (.inl (false, ())))
                                        | false => match idx o12 x38 with
                                          | none => none
                                          | some x39 => match (!(dget o12 (dnat x38) false)) with
                                            | true => some (.inr (.inl (false, ())))
                                            | false => match idx o11 x38 with
                                              | none => none
                                              | some x40 => match idx o13 o15 with
                                                | none => none
                                                | some x41 => match (!(ieq (dget o11 (dnat x38) (0 : Int)) (dget o13 (dnat o15) (0 : Int)))) with
                                                  | true => some (.inr (.inl (false, ())))
                                                  | false => match (!o18) with
                                                    | true => match idx o12 x38 with
                                                      | none => none
                                                      | some x42 => match (dget o12 (dnat x38) false) with
                                                        | true => some (.inr (.inl (false, ())))
                                                        | false => some (.inl (o9, o10, o11, o12, o13, o14, (IntKind.wrap .i64 (o15 + (1 : Int))), ()))
                                                    | false => some (.inl (o9, o10, o11, o12, o13, o14, (IntKind.wrap .i64 (o15 + (1 : Int))), ()))
                                      | false => match (!o18) with
                                        | true => match idx o12 x38 with
                                          | none => none
                                          | some x43 => match (dget o12 (dnat x38) false) with
                                            | true => some (.inr (.inl (false, ())))
                                            | false => some (.inl (o9, o10, o11, o12, o13, o14, (IntKind.wrap .i64 (o15 + (1 : Int))), ()))
                                        | false => some (.inl (o9, o10, o11, o12, o13, o14, (IntKind.wrap .i64 (o15 + (1 : Int))), ()))
                                  | .inr _ => none
                    | false => match idx a4 a6 with
                      | none => none
                      | some x44 => match has11 (a0, (dget a4 (dnat a6) (0 : Int)), ()) with
                        | none => none
                        | some (y45, _) => match (!(y3 == y45)) with
                          | true => some (.inr (.inl (false, ())))
                          | false => match iterL tableNear_s1 many (a0, a1, a2, a3, a4, a5, a6, y1, y2, y3, y5, (0 : Int), y5, a5, (ile a5 y5), y2, (ilt y2 (1 : Int)), y2, a5, (ilt a5 y2), y3, (!y3), false, false, y3, a0, a6, (dget a4 (dnat a6) (0 : Int)), y45, (!(y3 == y45)), ()) with
                            | none => none
                            | some r => match r with
                              | .inl (o46, _) => some (.inr (.inl (o46, ())))
                              | .inr r => match r with
                                | .inl (o47, o48, o49, o50, o51, o52, o53, o54, o55, o56, o57, o58, o59, o60, o61, o62, o63, o64, o65, o66, o67, o68, o69, o70, o71, o72, o73, o74, o75, _) => match rem? (IntKind.wrap .i64 ((IntKind.wrap .i64 (o57 + o55)) - (1 : Int))) o52 with
                                  | none => none
                                  | some x76 => match o56 with
                                    | true => match (!(ieq o54 x76)) with
                                      | true => some (.inr (.inl (false, ())))
                                      | false => match idx o50 x76 with
                                        | none => none
                                        | some x77 => match (!(dget o50 (dnat x76) false)) with
                                          | true => some (.inr (.inl (false, ())))
                                          | false => match idx o49 x76 with
                                            | none => none
                                            | some x78 => match idx o51 o53 with
                                              | none => none
                                              | some x79 => match (!(ieq (dget o49 (dnat x76) (0 : Int)) (dget o51 (dnat o53) (0 : Int)))) with
                                                | true => some (.inr (.inl (false, ())))
                                                | false => match (!o56) with
                                                  | true => match idx o50 x76 with
                                                    | none => none
                                                    | some x80 => match (dget o50 (dnat x76) false) with
                                                      | true => some (.inr (.inl (false, ())))
                                                      | false => some (.inl (o47, o48, o49, o50, o51, o52, (IntKind.wrap .i64 (o53 + (1 : Int))), ()))
                                                  | false => some (.inl (o47, o48, o49, o50, o51, o52, (IntKind.wrap .i64 (o53 + (1 : Int))), ()))
                                    | false => match (!o56) with
                                      | true => match idx o50 x76 with
                                        | none => none
                                        | some x81 => match (dget o50 (dnat x76) false) with
                                          | true => some (.inr (.inl (false, ())))
                                          | false => some (.inl (o47, o48, o49, o50, o51, o52, (IntKind.wrap .i64 (o53 + (1 : Int))), ()))
                                      | false => some (.inl (o47, o48, o49, o50, o51, o52, (IntKind.wrap .i64 (o53 + (1 : Int))), ()))
                                | .inr _ => none
  | false => some (.inr (.inr (.inl ())))
def tableNear_d : (Int × List Int × Int × Unit) → Option ((Bool × Unit)) := fun (a0, a1, a2, _) =>
  match alive12 () with
  | none => none
  | some (y0, _) => match (!y0) with
    | true => some (false, ())
    | false => match (ilt (48 : Int) (dlen a1)) with
      | true => some (true, ())
      | false => match rem? (IntKind.wrap .i64 a0) (6 : Int) with
        | none => none
        | some x1 => match make ((IntKind.wrap .i64 ((1 : Int) + x1)), a1, ()) with
          | none => none
          | some (y2, y3, y4, y5, _) => match (!(ieq y5 (0 : Int))) with
            | true => match (ieq y5 (2 : Int)) with
              | true => some ((ieq (dlen y3) (0 : Int)), ())
              | false => some (false, ())
            | false => match (fits ((dlen ([] : List (Int))) + (dlen a1))) with
              | true => match (fits ((dlen (dapp ([] : List (Int)) a1)) + (dlen ([a2] : List (Int))))) with
                | true => match (!(ieq (dlen y4) (dlen y3))) with
                  | true => some (false, ())
                  | false => match iterL tableNear_s0 many (a1, y2, y3, y4, (dapp (dapp ([] : List (Int)) a1) ([a2] : List (Int))), (dlen y3), (0 : Int), ()) with
                    | none => none
                    | some r => match r with
                      | .inl (o6, _) => some (o6, ())
                      | .inr r => match r with
                        | .inl _ => some (true, ())
                        | .inr _ => none
                | false => none
              | false => none
def tableNear (v : (Int × List Int × Int × Unit)) : Option ((Bool × Unit)) := lock (tableNear_d v)
theorem tableNear_eq (v : (Int × List Int × Int × Unit)) : tableNear v = tableNear_d v := lock_eq _

end
end Go.Pev
end
section
/- The models of functions. -/
end
section
/- A small kit for the plain laws: loops, numbers, lists. -/
namespace Go.Pev.Pl
theorem wrap_in {n : Int} (h : -9223372036854775808 ≤ n ∧ n ≤ 9223372036854775807) : IntKind.wrap .i64 n = n := IntWalk.i64_in n h

/-- a loop ends in what Q says, by an invariant and a measure -/
theorem iter_rule {σ ρ : Type} {step : σ → Option (σ ⊕ ρ)} (I : σ → Prop) (Q : ρ → Prop) (m : σ → Nat)
    (h : ∀ v, I v → (∃ v', step v = some (.inl v') ∧ I v' ∧ m v' < m v) ∨ (∃ r, step v = some (.inr r) ∧ Q r)) :
    ∀ n v, I v → m v < n → ∃ r, iterO step n v = some r ∧ Q r := by
  intro n
  induction n with
  | zero => intro v _ hn; omega
  | succ n ih =>
    intro v hv hn
    rcases h v hv with ⟨v', e, hi, hm⟩ | ⟨r, e, hq⟩
    · rw [iterO, e]
      exact ih v' hi (by omega)
    · rw [iterO, e]
      exact ⟨r, rfl, hq⟩

theorem iterL_rule {σ ρ : Type} {step : σ → Option (σ ⊕ ρ)} (I : σ → Prop) (Q : ρ → Prop) (m : σ → Nat)
    (h : ∀ v, I v → (∃ v', step v = some (.inl v') ∧ I v' ∧ m v' < m v) ∨ (∃ r, step v = some (.inr r) ∧ Q r))
    (v : σ) (hi : I v) (hm : m v < many) : ∃ r, iterL step many v = some r ∧ Q r := by
  rw [iterL_eq]
  exact iter_rule I Q m h many v hi hm

/-- a loop computes F: states are of the form 'abs t' -/
theorem iter_sim {σ ρ τ : Type} {step : σ → Option (σ ⊕ ρ)} (abs : τ → σ) (I : τ → Prop) (F : τ → ρ) (m : τ → Nat)
    (h : ∀ t, I t → (∃ t', step (abs t) = some (.inl (abs t')) ∧ I t' ∧ m t' < m t ∧ F t' = F t) ∨ step (abs t) = some (.inr (F t))) :
    ∀ n t, I t → m t < n → iterO step n (abs t) = some (F t) := by
  intro n
  induction n with
  | zero => intro v _ hn; omega
  | succ n ih =>
    intro v hv hn
    rcases h v hv with ⟨v', e, hi, hm, hf⟩ | e
    · rw [iterO, e, ← hf]
      exact ih v' hi (by omega)
    · rw [iterO, e]

theorem iterL_sim {σ ρ τ : Type} {step : σ → Option (σ ⊕ ρ)} (abs : τ → σ) (I : τ → Prop) (F : τ → ρ) (m : τ → Nat)
    (h : ∀ t, I t → (∃ t', step (abs t) = some (.inl (abs t')) ∧ I t' ∧ m t' < m t ∧ F t' = F t) ∨ step (abs t) = some (.inr (F t)))
    (t : τ) (hi : I t) (hm : m t < many) : iterL step many (abs t) = some (F t) := by
  rw [iterL_eq]
  exact iter_sim abs I F m h many t hi hm

/- lists that are arrays -/
section
set_option linter.unusedSectionVars false
variable {α : Type} [Inhabited α]
theorem idx_at {d : Array α} {n : Nat} (h : n < d.size) : idx d.toList (n : Int) = some d[n]! := by
  rw [idx_eq, idxR, if_neg (by omega)]
  simp [h]
theorem dget_at {d : Array α} {n : Nat} {z : α} (h : n < d.size) : dget d.toList (dnat (n : Int)) z = d[n]! := by
  simp [dget, dnat, h]
theorem dset_at {d : Array α} {n : Nat} {x : α} : dset d.toList (dnat (n : Int)) x = (d.setIfInBounds n x).toList := by
  simp [dset, dnat]
theorem dlen_at {d : Array α} : dlen d.toList = (d.size : Int) := by simp [dlen]
theorem swp_fold (d : Array α) (i j : Nat) : (d.setIfInBounds i d[j]!).setIfInBounds j d[i]! = Go.Sort.swp d i j := rfl
theorem size_swp (d : Array α) (i j : Nat) : (Go.Sort.swp d i j).size = d.size := by simp [Go.Sort.swp]
end

theorem ilt_nat (a b : Nat) : ilt (a : Int) (b : Int) = decide (a < b) := by rw [ilt_eq]; simp
theorem ile_nat (a b : Nat) : ile (a : Int) (b : Int) = decide (a ≤ b) := by rw [ile_eq]; simp
theorem ieq_nat (a b : Nat) : ieq (a : Int) (b : Int) = decide (a = b) := by
  rw [ieq_eq]
  by_cases h : a = b
  · simp [h]
  · simp [h]; omega

section
theorem wrap_add {a b : Nat} (h : a + b < 9223372036854775808) : IntKind.wrap .i64 ((a : Int) + (b : Int)) = ((a + b : Nat) : Int) := by rw [wrap_in (by omega)]; omega
theorem wrap_add1 {a : Nat} (h : a + 1 < 9223372036854775808) : IntKind.wrap .i64 ((a : Int) + 1) = ((a + 1 : Nat) : Int) := by rw [wrap_in (by omega)]; omega
theorem wrap_2mul {a : Nat} (h : 2 * a < 9223372036854775808) : IntKind.wrap .i64 ((2 : Int) * (a : Int)) = ((2 * a : Nat) : Int) := by rw [wrap_in (by omega)]; omega
theorem wrap_mul1 {a : Nat} (h : a < 9223372036854775808) : IntKind.wrap .i64 ((a : Int) * 1) = ((a * 1 : Nat) : Int) := by rw [wrap_in (by omega)]; omega
theorem wrap_mul2 {a : Nat} (h : a * 2 < 9223372036854775808) : IntKind.wrap .i64 ((a : Int) * 2) = ((a * 2 : Nat) : Int) := by rw [wrap_in (by omega)]; omega
theorem wrap_mul3 {a : Nat} (h : a * 3 < 9223372036854775808) : IntKind.wrap .i64 ((a : Int) * 3) = ((a * 3 : Nat) : Int) := by rw [wrap_in (by omega)]; omega
theorem wrap_sub {a b : Nat} (h : b ≤ a ∧ a < 9223372036854775808) : IntKind.wrap .i64 ((a : Int) - (b : Int)) = ((a - b : Nat) : Int) := by rw [wrap_in (by omega)]; omega
theorem wrap_sub1 {a : Nat} (h : 1 ≤ a ∧ a < 9223372036854775808) : IntKind.wrap .i64 ((a : Int) - 1) = ((a - 1 : Nat) : Int) := by rw [wrap_in (by omega)]; omega
theorem quo_2 {a : Nat} (h : a < 9223372036854775808) : quo? .i64 (a : Int) 2 = some ((a / 2 : Nat) : Int) := by
  rw [quo_eq, quoR, if_neg (by omega), Int.tdiv_eq_ediv_of_nonneg (by omega), wrap_in (by omega)]; rfl
theorem quo_4 {a : Nat} (h : a < 9223372036854775808) : quo? .i64 (a : Int) 4 = some ((a / 4 : Nat) : Int) := by
  rw [quo_eq, quoR, if_neg (by omega), Int.tdiv_eq_ediv_of_nonneg (by omega), wrap_in (by omega)]; rfl
theorem quo_8 {a : Nat} (h : a < 9223372036854775808) : quo? .i64 (a : Int) 8 = some ((a / 8 : Nat) : Int) := by
  rw [quo_eq, quoR, if_neg (by omega), Int.tdiv_eq_ediv_of_nonneg (by omega), wrap_in (by omega)]; rfl
end
end Go.Pev.Pl
end
section
namespace Go.Pev.Pl
open Go.Sort
theorem lessW_val (x y : Int) : lessW (x, y, ()) = some (ltInt x y, ()) := by
  simp only [lessW_eq, lessW_d, nanW_eq, nanW_d, ilt_eq, ieq_eq, ltInt]
  by_cases h : x < y <;> simp [h]

theorem insW_in (a b i : Nat) : ∀ (j : Nat) (d : Array Int) (n : Nat), j < d.size → d.size < 4611686018427387904 → j < n →
    iterO insW_s1 n (d.toList, (a : Int), (b : Int), (i : Int), (j : Int), ()) = some (.inl ((insInner ltInt a j d).toList, (a : Int), (b : Int), (i : Int), ())) := by
  intro j
  induction j with
  | zero =>
    intro d n hj hs hn
    obtain ⟨n, rfl⟩ : ∃ k, n = k + 1 := ⟨n - 1, by omega⟩
    have h0 : ilt (a : Int) ((0 : Nat) : Int) = false := by rw [ilt_nat]; simp
    simp only [iterO, insW_s1, h0, insInner]
  | succ j ih =>
    intro d n hj hs hn
    obtain ⟨n, rfl⟩ : ∃ k, n = k + 1 := ⟨n - 1, by omega⟩
    have e1 : IntKind.wrap .i64 (((j + 1 : Nat) : Int) - 1) = (j : Int) := by rw [wrap_in (by omega)]; omega
    have hj' : j < d.size := by omega
    simp only [iterO, insW_s1, ilt_nat, e1, idx_at hj, idx_at hj', dget_at hj, dget_at hj', lessW_val, insInner, gt_iff_lt]
    by_cases h1 : a < j + 1
    · cases h2 : ltInt d[j + 1]! d[j]!
      · simp only [h1, decide_true, h2, Bool.and_false, Bool.false_eq_true, if_false]
      · simp only [h1, decide_true, h2, Bool.and_true, if_true, dset_at]
        rw [idx_at (by simpa using hj')]
        simp only [swp_fold]
        exact ih (swp d (j + 1) j) n (by rw [size_swp]; omega) (by rw [size_swp]; omega) (by omega)
    · simp only [h1, decide_false, Bool.false_and, Bool.false_eq_true, if_false]

theorem size_insInner (lt : Int → Int → Bool) (a j : Nat) (d : Array Int) : (insInner lt a j d).size = d.size := by
  induction j generalizing d with
  | zero => rfl
  | succ j ih =>
    rw [insInner]
    split
    · rw [ih, size_swp]
    · rfl

theorem insW_out (a b : Nat) : ∀ (k i : Nat) (d : Array Int) (n : Nat), b - i = k → b ≤ d.size → d.size < 4611686018427387904 → d.size < many → k < n →
    iterO insW_s0 n (d.toList, (a : Int), (b : Int), (i : Int), ()) = some (.inl ((insOuter ltInt a b i d).toList, ())) := by
  intro k
  induction k with
  | zero =>
    intro i d n hk hb hs hm hn
    obtain ⟨n, rfl⟩ : ∃ k, n = k + 1 := ⟨n - 1, by omega⟩
    have h0 : ¬ i < b := by omega
    rw [insOuter]
    simp only [iterO, insW_s0, ilt_nat, h0, decide_false, if_false]
  | succ k ih =>
    intro i d n hk hb hs hm hn
    obtain ⟨n, rfl⟩ : ∃ k, n = k + 1 := ⟨n - 1, by omega⟩
    have h0 : i < b := by omega
    have e1 : IntKind.wrap .i64 ((i : Int) + 1) = ((i + 1 : Nat) : Int) := by rw [wrap_in (by omega)]; omega
    rw [insOuter]
    simp only [iterO, insW_s0, ilt_nat, h0, decide_true, if_true, iterL_eq]
    rw [insW_in a b i i d many (by omega) hs (by omega)]
    simp only [e1]
    exact ih (i + 1) _ n (by omega) (by rw [size_insInner]; omega) (by rw [size_insInner]; omega) (by rw [size_insInner]; omega) (by omega)

theorem insW_val (d : Array Int) (a b : Nat) (hab : a ≤ b) (hb : b ≤ d.size) (hs : d.size < 4294967296) : insW (d.toList, (a : Int), (b : Int), ()) = some ((insertionSort ltInt d a b).toList, ()) := by
  have hm : d.size < many := by simp only [many]; omega
  have e1 : IntKind.wrap .i64 ((a : Int) + 1) = ((a + 1 : Nat) : Int) := by rw [wrap_in (by omega)]; omega
  rw [insW_eq, insW_d]
  simp only [e1, iterL_eq]
  rw [insW_out a b (b - (a + 1)) (a + 1) d many rfl hb (by omega) hm (by omega)]
  rfl
end Go.Pev.Pl
end
section
namespace Go.Pev.Pl
open Go.Sort
theorem siftW_loop (hi first : Nat) : ∀ (k root : Nat) (d : Array Int) (n : Nat), hi - root = k → root ≤ hi → first + hi ≤ d.size → d.size < 4294967296 → (hi = 0 ∨ root < hi) → k < n →
    iterO siftW_s0 n (d.toList, (hi : Int), (first : Int), (root : Int), ()) = some (.inl ((siftDown ltInt hi first root d).toList, ())) ∨
    iterO siftW_s0 n (d.toList, (hi : Int), (first : Int), (root : Int), ()) = some (.inr (.inl ((siftDown ltInt hi first root d).toList, ()))) := by
  intro k
  induction k using Nat.strongRecOn with
  | _ k ih =>
  intro root d n hk hr hf hs hz hn
  obtain ⟨n, rfl⟩ : ∃ k, n = k + 1 := ⟨n - 1, by omega⟩
  rw [siftDown]
  simp (disch := omega) only [iterO, siftW_s0, wrap_2mul, wrap_add1, wrap_add, ile_nat, ilt_nat]
  by_cases h1 : hi ≤ 2 * root + 1
  · simp only [h1, decide_true, ge_iff_le, dite_true, true_or]
  · have i0 : first + root < d.size := by omega
    have i1 : first + (2 * root + 1) < d.size := by omega
    simp only [h1, decide_false, ge_iff_le, if_false, dite_false]
    simp (disch := omega) only [idx_at, dget_at, lessW_val]
    by_cases h2 : 2 * root + 1 + 1 < hi
    · have i2 : first + (2 * root + 2) < d.size := by omega
      have i3 : 2 * root + 1 + 1 = 2 * root + 2 := by omega
      have i4 : first + (2 * root + 1) + 1 = first + (2 * root + 2) := by omega
      have h3 : 2 * root + 2 < hi := by omega
      simp only [i3, i4, h3, decide_true]
      simp (disch := omega) only [idx_at, dget_at, lessW_val, dset_at]
      cases h4 : ltInt d[first + (2 * root + 1)]! d[first + (2 * root + 2)]!
      · simp only [Bool.and_false, Bool.false_eq_true, if_false]
        cases h5 : ltInt d[first + root]! d[first + (2 * root + 1)]!
        · simp
        · simp only [Bool.not_true, Bool.false_eq_true, if_false]
          rw [idx_at (by simpa using i1)]
          simp only [swp_fold]
          exact ih (hi - (2 * root + 1)) (by omega) (2 * root + 1) _ n rfl (by omega) (by rw [size_swp]; omega) (by rw [size_swp]; omega) (by omega) (by omega)
      · simp only [Bool.and_true, if_true]
        cases h5 : ltInt d[first + root]! d[first + (2 * root + 2)]!
        · simp
        · simp only [Bool.not_true, Bool.false_eq_true, if_false, dite_true]
          rw [idx_at (by simpa using i2)]
          simp only [swp_fold]
          exact ih (hi - (2 * root + 2)) (by omega) (2 * root + 2) _ n rfl (by omega) (by rw [size_swp]; omega) (by rw [size_swp]; omega) (by omega) (by omega)
    · simp only [h2, decide_false, Bool.false_and, Bool.false_eq_true, if_false, dset_at]
      cases h5 : ltInt d[first + root]! d[first + (2 * root + 1)]!
      · simp
      · simp only [Bool.not_true, Bool.false_eq_true, if_false]
        rw [idx_at (by simpa using i1)]
        simp only [swp_fold]
        exact ih (hi - (2 * root + 1)) (by omega) (2 * root + 1) _ n rfl (by omega) (by rw [size_swp]; omega) (by rw [size_swp]; omega) (by omega) (by omega)

theorem siftW_val (d : Array Int) (root hi first : Nat) (hf : first + hi ≤ d.size) (hs : d.size < 4294967296) (hz : hi = 0 ∧ root = 0 ∨ root < hi) : siftW (d.toList, (root : Int), (hi : Int), (first : Int), ()) = some ((siftDown ltInt hi first root d).toList, ()) := by
  have hm : d.size < many := by simp only [many]; omega
  rw [siftW_eq, siftW_d]
  simp only [iterL_eq]
  rcases siftW_loop hi first (hi - root) root d many rfl (by omega) hf hs (by omega) (by omega) with h | h <;> rw [h]

theorem size_siftDown (lt : Int → Int → Bool) (hi first : Nat) : ∀ (k root : Nat) (d : Array Int), hi - root = k → (siftDown lt hi first root d).size = d.size := by
  intro k
  induction k using Nat.strongRecOn with
  | _ k ih =>
  intro root d hk
  rw [siftDown]
  split
  · rfl
  · split
    · split
      · rfl
      · split
        · rw [ih (hi - (2 * root + 2)) (by omega) _ _ rfl, size_swp]
        · rfl
    · split
      · rfl
      · rw [ih (hi - (2 * root + 1)) (by omega) _ _ rfl, size_swp]

theorem heapW_build (hi first : Nat) : ∀ (k : Nat) (d : Array Int) (n : Nat), (hi = 0 ∧ k ≤ 1 ∨ k ≤ hi) → first + hi ≤ d.size → d.size < 4294967296 → k < n →
    iterO heapW_s0 n (d.toList, (first : Int), (0 : Int), (hi : Int), (k : Int) - 1, ()) = some (.inl ((heapBuild ltInt hi first k d).toList, (first : Int), (0 : Int), (hi : Int), ())) := by
  intro k
  induction k with
  | zero =>
    intro d n hk hf hs hn
    obtain ⟨n, rfl⟩ : ∃ k, n = k + 1 := ⟨n - 1, by omega⟩
    rw [iterO, heapW_s0, ile_eq, decide_eq_false (by omega)]
    rfl
  | succ k ih =>
    intro d n hk hf hs hn
    obtain ⟨n, rfl⟩ : ∃ k, n = k + 1 := ⟨n - 1, by omega⟩
    have e0 : ((k + 1 : Nat) : Int) - 1 = (k : Int) := by omega
    rw [iterO, heapW_s0, e0, ile_eq, decide_eq_true (by omega)]
    simp only [siftW_val d k hi first hf hs (by omega)]
    rw [wrap_in (by omega)]
    exact ih _ n (by omega) (by rw [size_siftDown _ _ _ _ _ _ rfl]; omega) (by rw [size_siftDown _ _ _ _ _ _ rfl]; omega) (by omega)

theorem size_heapBuild (lt : Int → Int → Bool) (hi first : Nat) : ∀ (k : Nat) (d : Array Int), (heapBuild lt hi first k d).size = d.size := by
  intro k
  induction k with
  | zero => intro d; rfl
  | succ k ih => intro d; rw [heapBuild, ih, size_siftDown _ _ _ _ _ _ rfl]

theorem heapW_pop (first : Nat) : ∀ (k : Nat) (d : Array Int) (n : Nat), first + k ≤ d.size → d.size < 4294967296 → k < n →
    iterO heapW_s1 n (d.toList, (first : Int), (0 : Int), (k : Int) - 1, ()) = some (.inl ((heapPop ltInt first k d).toList, ())) := by
  intro k
  induction k with
  | zero =>
    intro d n hf hs hn
    obtain ⟨n, rfl⟩ : ∃ k, n = k + 1 := ⟨n - 1, by omega⟩
    rw [iterO, heapW_s1, ile_eq, decide_eq_false (by omega)]
    rfl
  | succ k ih =>
    intro d n hf hs hn
    obtain ⟨n, rfl⟩ : ∃ k, n = k + 1 := ⟨n - 1, by omega⟩
    have e0 : ((k + 1 : Nat) : Int) - 1 = (k : Int) := by omega
    have i0 : first < d.size := by omega
    have i1 : first + k < d.size := by omega
    rw [iterO, heapW_s1, e0, ile_eq, decide_eq_true (by omega)]
    simp (disch := omega) only [wrap_add, idx_at, dget_at, dset_at]
    rw [idx_at (by simpa using i1)]
    simp only [swp_fold]
    have := siftW_val (swp d first (first + k)) 0 k first (by rw [size_swp]; omega) (by rw [size_swp]; omega) (by omega)
    simp only [Int.natCast_zero] at this
    simp only [this]
    rw [wrap_in (by omega)]
    exact ih _ n (by rw [size_siftDown _ _ _ _ _ _ rfl, size_swp]; omega) (by rw [size_siftDown _ _ _ _ _ _ rfl, size_swp]; omega) (by omega)

theorem heapW_val (d : Array Int) (a b : Nat) (hab : a < b) (hb : b ≤ d.size) (hs : d.size < 4294967296) : heapW (d.toList, (a : Int), (b : Int), ()) = some ((heapSort ltInt d a b).toList, ()) := by
  have hm : 4294967296 < many := by simp only [many]; omega
  rw [heapW_eq, heapW_d]
  simp (disch := omega) only [wrap_sub, wrap_sub1, quo_2, iterL_eq]
  have e : (((b - a - 1) / 2 : Nat) : Int) = (((b - a - 1) / 2 + 1 : Nat) : Int) - 1 := by omega
  rw [e, heapW_build (b - a) a _ d many (by omega) (by omega) hs (by omega)]
  have e2 : (((b - a - 1 : Nat)) : Int) = ((b - a : Nat) : Int) - 1 := by omega
  simp (disch := omega) only [wrap_sub1, e2]
  rw [heapW_pop a (b - a) _ many (by rw [size_heapBuild]; omega) (by rw [size_heapBuild]; omega) (by omega)]
  rfl
end Go.Pev.Pl
end
section
namespace Go.Pev.Pl
open Go.Sort
theorem revW_loop : ∀ (k i j : Nat) (d : Array Int) (n : Nat), j - i = k → (j < d.size) → d.size < 4294967296 → k < n →
    iterO revW_s0 n (d.toList, (i : Int), (j : Int), ()) = some (.inl ((reverseLoop i j d).toList, ())) := by
  intro k
  induction k using Nat.strongRecOn with
  | _ k ih =>
  intro i j d n hk hj hs hn
  obtain ⟨n, rfl⟩ : ∃ k, n = k + 1 := ⟨n - 1, by omega⟩
  rw [reverseLoop, iterO, revW_s0]
  simp only [ilt_nat]
  by_cases h : i < j
  · have hi : i < d.size := by omega
    simp only [h, decide_true, if_true, idx_at hj, idx_at hi, dget_at hi, dget_at hj, dset_at]
    rw [idx_at (by simpa using hj)]
    simp (disch := omega) only [swp_fold, wrap_add1, wrap_sub1]
    exact ih (j - 1 - (i + 1)) (by omega) (i + 1) (j - 1) _ n rfl (by rw [size_swp]; omega) (by rw [size_swp]; omega) (by omega)
  · simp only [h, decide_false, if_false]

theorem revW_val (d : Array Int) (a b : Nat) (hab : a < b) (hb : b ≤ d.size) (hs : d.size < 4294967296) : revW (d.toList, (a : Int), (b : Int), ()) = some ((reverseRange d a b).toList, ()) := by
  have hm : 4294967296 < many := by simp only [many]; omega
  rw [revW_eq, revW_d]
  simp (disch := omega) only [wrap_sub1, iterL_eq]
  rw [revW_loop (b - 1 - a) a (b - 1) d many rfl (by omega) hs (by omega)]
  rfl

theorem swapW {d : Array Int} {i j : Nat} (hi : i < d.size) (hj : j < d.size) : idx (dset d.toList (dnat (i : Int)) (dget d.toList (dnat (j : Int)) 0)) (j : Int) = some (d.setIfInBounds i d[j]!)[j]! ∧
    dset (dset d.toList (dnat (i : Int)) (dget d.toList (dnat (j : Int)) 0)) (dnat (j : Int)) (dget d.toList (dnat (i : Int)) 0) = (swp d i j).toList := by
  rw [dget_at hi, dget_at hj, dset_at, dset_at]
  exact ⟨idx_at (by simpa using hj), rfl⟩

/- the scans -/
theorem scanUpW (step : List Int × Int × Int × Int × Unit → Option ((List Int × Int × Int × Int × Unit) ⊕ (List Int × Int × Int × Int × Unit) ⊕ Unit)) (p : Int → Bool) (d : Array Int) (a j : Nat) (hs : d.size < 4294967296) (hj : j < d.size)
    (h : ∀ i : Nat, i ≤ d.size → step (d.toList, (a : Int), (i : Int), (j : Int), ()) = if i ≤ j ∧ p d[i]! then some (.inl (d.toList, (a : Int), ((i + 1 : Nat) : Int), (j : Int), ())) else some (.inr (.inl (d.toList, (a : Int), (i : Int), (j : Int), ())))) :
    ∀ (k i n : Nat), j + 1 - i = k → i ≤ d.size → k < n → iterO step n (d.toList, (a : Int), (i : Int), (j : Int), ()) = some (.inl (d.toList, (a : Int), ((scanUp p d j i : Nat) : Int), (j : Int), ())) := by
  intro k
  induction k using Nat.strongRecOn with
  | _ k ih =>
  intro i n hk hi hn
  obtain ⟨n, rfl⟩ : ∃ k, n = k + 1 := ⟨n - 1, by omega⟩
  rw [scanUp, iterO, h i hi]
  by_cases h1 : i ≤ j ∧ p d[i]! = true
  · rw [if_pos h1, if_pos (by simpa using h1)]
    exact ih (j + 1 - (i + 1)) (by omega) (i + 1) n rfl (by omega) (by omega)
  · rw [if_neg h1, if_neg (by simpa using h1)]

theorem scanDownW (step : List Int × Int × Int × Int × Unit → Option ((List Int × Int × Int × Int × Unit) ⊕ (List Int × Int × Int × Int × Unit) ⊕ Unit)) (p : Int → Bool) (d : Array Int) (a i : Nat) (hi : 1 ≤ i)
    (h : ∀ j : Nat, j < d.size → step (d.toList, (a : Int), (i : Int), (j : Int), ()) = if i ≤ j ∧ p d[j]! then some (.inl (d.toList, (a : Int), (i : Int), ((j - 1 : Nat) : Int), ())) else some (.inr (.inl (d.toList, (a : Int), (i : Int), (j : Int), ())))) :
    ∀ (j n : Nat), j < d.size → j < n → iterO step n (d.toList, (a : Int), (i : Int), (j : Int), ()) = some (.inl (d.toList, (a : Int), (i : Int), ((scanDown p d i j : Nat) : Int), ())) := by
  intro j
  induction j with
  | zero =>
    intro n hj hn
    obtain ⟨n, rfl⟩ : ∃ k, n = k + 1 := ⟨n - 1, by omega⟩
    rw [iterO, h 0 hj, if_neg (by omega)]
    rfl
  | succ j ih =>
    intro n hj hn
    obtain ⟨n, rfl⟩ : ∃ k, n = k + 1 := ⟨n - 1, by omega⟩
    rw [scanDown, iterO, h (j + 1) hj]
    by_cases h1 : i ≤ j + 1 ∧ p d[j + 1]! = true
    · rw [if_pos h1, if_pos (by simpa using h1)]
      exact ih n (by omega) (by omega)
    · rw [if_neg h1, if_neg (by simpa using h1)]

section
variable (d : Array Int) (a i j : Nat) (hs : d.size < 4294967296) (ha : a < d.size) (hj : j < d.size)
include hs ha hj
theorem partW_s0_at (hi : i ≤ d.size) : partW_s0 (d.toList, (a : Int), (i : Int), (j : Int), ()) = if i ≤ j ∧ (fun x => ltInt x d[a]!) d[i]! = true then some (.inl (d.toList, (a : Int), ((i + 1 : Nat) : Int), (j : Int), ())) else some (.inr (.inl (d.toList, (a : Int), (i : Int), (j : Int), ()))) := by
  rw [partW_s0]
  simp only [ile_nat]
  by_cases h : i ≤ j
  · have hi' : i < d.size := by omega
    simp (disch := omega) only [h, decide_true, idx_at, dget_at, lessW_val, wrap_add1, true_and]
    cases ltInt d[i]! d[a]! <;> simp
  · simp only [h, decide_false, false_and, if_false]
theorem partW_s3_at (hi : i ≤ d.size) : partW_s3 (d.toList, (a : Int), (i : Int), (j : Int), ()) = if i ≤ j ∧ (fun x => ltInt x d[a]!) d[i]! = true then some (.inl (d.toList, (a : Int), ((i + 1 : Nat) : Int), (j : Int), ())) else some (.inr (.inl (d.toList, (a : Int), (i : Int), (j : Int), ()))) := by
  rw [partW_s3]
  simp only [ile_nat]
  by_cases h : i ≤ j
  · have hi' : i < d.size := by omega
    simp (disch := omega) only [h, decide_true, idx_at, dget_at, lessW_val, wrap_add1, true_and]
    cases ltInt d[i]! d[a]! <;> simp
  · simp only [h, decide_false, false_and, if_false]
theorem partW_s1_at (hi : 1 ≤ i) : partW_s1 (d.toList, (a : Int), (i : Int), (j : Int), ()) = if i ≤ j ∧ (fun x => !ltInt x d[a]!) d[j]! = true then some (.inl (d.toList, (a : Int), (i : Int), ((j - 1 : Nat) : Int), ())) else some (.inr (.inl (d.toList, (a : Int), (i : Int), (j : Int), ()))) := by
  rw [partW_s1]
  simp only [ile_nat]
  by_cases h : i ≤ j
  · simp (disch := omega) only [h, decide_true, idx_at, dget_at, lessW_val, wrap_sub1, true_and]
    cases ltInt d[j]! d[a]! <;> simp
  · simp only [h, decide_false, false_and, if_false]
theorem partW_s4_at (hi : 1 ≤ i) : partW_s4 (d.toList, (a : Int), (i : Int), (j : Int), ()) = if i ≤ j ∧ (fun x => !ltInt x d[a]!) d[j]! = true then some (.inl (d.toList, (a : Int), (i : Int), ((j - 1 : Nat) : Int), ())) else some (.inr (.inl (d.toList, (a : Int), (i : Int), (j : Int), ()))) := by
  rw [partW_s4]
  simp only [ile_nat]
  by_cases h : i ≤ j
  · simp (disch := omega) only [h, decide_true, idx_at, dget_at, lessW_val, wrap_sub1, true_and]
    cases ltInt d[j]! d[a]! <;> simp
  · simp only [h, decide_false, false_and, if_false]
theorem partEqW_s1_at (hi : i ≤ d.size) : partEqW_s1 (d.toList, (a : Int), (i : Int), (j : Int), ()) = if i ≤ j ∧ (fun x => !ltInt d[a]! x) d[i]! = true then some (.inl (d.toList, (a : Int), ((i + 1 : Nat) : Int), (j : Int), ())) else some (.inr (.inl (d.toList, (a : Int), (i : Int), (j : Int), ()))) := by
  rw [partEqW_s1]
  simp only [ile_nat]
  by_cases h : i ≤ j
  · have hi' : i < d.size := by omega
    simp (disch := omega) only [h, decide_true, idx_at, dget_at, lessW_val, wrap_add1, true_and]
    cases ltInt d[a]! d[i]! <;> simp
  · simp only [h, decide_false, false_and, if_false]
theorem partEqW_s2_at (hi : 1 ≤ i) : partEqW_s2 (d.toList, (a : Int), (i : Int), (j : Int), ()) = if i ≤ j ∧ (fun x => ltInt d[a]! x) d[j]! = true then some (.inl (d.toList, (a : Int), (i : Int), ((j - 1 : Nat) : Int), ())) else some (.inr (.inl (d.toList, (a : Int), (i : Int), (j : Int), ()))) := by
  rw [partEqW_s2]
  simp only [ile_nat]
  by_cases h : i ≤ j
  · simp (disch := omega) only [h, decide_true, idx_at, dget_at, lessW_val, wrap_sub1, true_and]
    cases ltInt d[a]! d[j]! <;> simp
  · simp only [h, decide_false, false_and, if_false]
end

theorem scanUp_size (p : Int → Bool) (d : Array Int) (j i : Nat) (hj : j < d.size) (hi : i ≤ d.size) : scanUp p d j i ≤ d.size := by
  suffices h : ∀ (k i : Nat), j + 1 - i = k → i ≤ d.size → scanUp p d j i ≤ d.size from h _ i rfl hi
  intro k
  induction k using Nat.strongRecOn with
  | _ k ih =>
  intro i hk hi
  rw [scanUp]
  split
  · rename_i h
    have : i ≤ j := by simp at h; exact h.1
    exact ih (j + 1 - (i + 1)) (by omega) (i + 1) rfl (by omega)
  · exact hi

theorem partW_loop (a : Nat) : ∀ (k i j : Nat) (d : Array Int) (n : Nat), j + 1 - i = k → a < d.size → 1 ≤ i → i ≤ d.size → j < d.size → d.size < 4294967296 → k < n →
    iterO partW_s2 n (d.toList, (a : Int), (i : Int), (j : Int), ()) = some (.inl ((partLoop ltInt a i j d).2.toList, (a : Int), (((partLoop ltInt a i j d).1 : Nat) : Int), ())) ∧ (partLoop ltInt a i j d).1 ≤ j ∧ (partLoop ltInt a i j d).2.size = d.size := by
  intro k
  induction k using Nat.strongRecOn with
  | _ k ih =>
  intro i j d n hk ha hi hi' hj hs hn
  have hm : 4294967296 < many := by simp only [many]; omega
  obtain ⟨n, rfl⟩ : ∃ k, n = k + 1 := ⟨n - 1, by omega⟩
  rw [partLoop_eq, iterO, partW_s2]
  have u1 := scanUp_ge (fun x => ltInt x d[a]!) d j i
  have u2 := scanUp_size (fun x => ltInt x d[a]!) d j i hj hi'
  rw [iterL_eq, scanUpW _ (fun x => ltInt x d[a]!) d a j hs hj (fun i h => partW_s3_at d a i j hs ha hj h) _ i many rfl hi' (by omega)]
  generalize scanUp (fun x => ltInt x d[a]!) d j i = i2 at *
  have v1 := scanDown_le (fun x => !ltInt x d[a]!) d i2 j
  simp only [iterL_eq]
  rw [scanDownW _ (fun x => !ltInt x d[a]!) d a i2 (by omega) (fun j h => partW_s4_at d a i2 j hs ha h (by omega)) j many hj (by omega)]
  generalize scanDown (fun x => !ltInt x d[a]!) d i2 j = j2 at *
  simp only [ilt_nat]
  by_cases h : j2 < i2
  · simp only [h, decide_true, gt_iff_lt, if_true]
    exact ⟨trivial, v1, trivial⟩
  · have hi2 : i2 < d.size := by omega
    have hj2 : j2 < d.size := by omega
    simp only [h, decide_false, gt_iff_lt, if_false, idx_at hi2, idx_at hj2, (swapW hi2 hj2).1, (swapW hi2 hj2).2]
    simp (disch := omega) only [wrap_add1, wrap_sub1]
    obtain ⟨q1, q2, q3⟩ := ih (j2 - 1 + 1 - (i2 + 1)) (by omega) (i2 + 1) (j2 - 1) (swp d i2 j2) n rfl (by rw [size_swp]; omega) (by omega) (by rw [size_swp]; omega) (by rw [size_swp]; omega) (by rw [size_swp]; omega) (by omega)
    exact ⟨q1, by omega, by rw [q3, size_swp]⟩

theorem partW_val (d : Array Int) (a b p : Nat) (ha : a ≤ p) (hp : p < b) (hb : b ≤ d.size) (hs : d.size < 4294967296) :
    partW (d.toList, (a : Int), (b : Int), (p : Int), ()) = some ((partition ltInt d a b p).2.2.toList, (((partition ltInt d a b p).1 : Nat) : Int), (partition ltInt d a b p).2.1, ()) := by
  have hm : 4294967296 < many := by simp only [many]; omega
  have ha' : a < d.size := by omega
  have hp' : p < d.size := by omega
  rw [partW_eq, partW_d, partition]
  simp only [idx_at ha', idx_at hp', (swapW ha' hp').1, (swapW ha' hp').2]
  have hs' := hs
  rw [← size_swp d a p] at ha' hs' hb
  generalize swp d a p = d at *
  simp (disch := omega) only [wrap_add1, wrap_sub1, iterL_eq]
  have u1 := scanUp_ge (fun x => ltInt x d[a]!) d (b - 1) (a + 1)
  have u2 := scanUp_size (fun x => ltInt x d[a]!) d (b - 1) (a + 1) (by omega) (by omega)
  rw [scanUpW _ (fun x => ltInt x d[a]!) d a (b - 1) hs' (by omega) (fun i h => partW_s0_at d a i (b - 1) hs' ha' (by omega) h) _ (a + 1) many rfl (by omega) (by omega)]
  generalize scanUp (fun x => ltInt x d[a]!) d (b - 1) (a + 1) = i2 at *
  have v1 := scanDown_le (fun x => !ltInt x d[a]!) d i2 (b - 1)
  simp only []
  rw [scanDownW _ (fun x => !ltInt x d[a]!) d a i2 (by omega) (fun j h => partW_s1_at d a i2 j hs' ha' h (by omega)) (b - 1) many (by omega) (by omega)]
  generalize scanDown (fun x => !ltInt x d[a]!) d i2 (b - 1) = j2 at *
  simp only [ilt_nat]
  have hj2 : j2 < d.size := by omega
  by_cases h : j2 < i2
  · simp only [h, decide_true, gt_iff_lt, if_true, idx_at ha', idx_at hj2, (swapW hj2 ha').1, (swapW hj2 ha').2]
  · have hi2 : i2 < d.size := by omega
    simp only [h, decide_false, gt_iff_lt, if_false, idx_at hi2, idx_at hj2, (swapW hi2 hj2).1, (swapW hi2 hj2).2]
    simp (disch := omega) only [wrap_add1, wrap_sub1]
    obtain ⟨q1, q2, q3⟩ := partW_loop a (j2 - 1 + 1 - (i2 + 1)) (i2 + 1) (j2 - 1) (swp d i2 j2) many rfl (by rw [size_swp]; omega) (by omega) (by rw [size_swp]; omega) (by rw [size_swp]; omega) (by rw [size_swp]; omega) (by omega)
    simp only [q1]
    rw [size_swp] at q3
    generalize partLoop ltInt a (i2 + 1) (j2 - 1) (swp d i2 j2) = r at *
    have h1 : r.1 < r.2.size := by omega
    have h2 : a < r.2.size := by omega
    simp only [idx_at h1, idx_at h2, (swapW h1 h2).1, (swapW h1 h2).2]

theorem partEqW_loop (a : Nat) : ∀ (k i j : Nat) (d : Array Int) (n : Nat), j + 1 - i = k → a < d.size → 1 ≤ i → i ≤ d.size → j < d.size → d.size < 4294967296 → k < n →
    iterO partEqW_s0 n (d.toList, (a : Int), (i : Int), (j : Int), ()) = some (.inl ((partEqLoop ltInt a i j d).2.toList, (((partEqLoop ltInt a i j d).1 : Nat) : Int), ())) := by
  intro k
  induction k using Nat.strongRecOn with
  | _ k ih =>
  intro i j d n hk ha hi hi' hj hs hn
  have hm : 4294967296 < many := by simp only [many]; omega
  obtain ⟨n, rfl⟩ : ∃ k, n = k + 1 := ⟨n - 1, by omega⟩
  rw [partEqLoop_eq, iterO, partEqW_s0]
  have u1 := scanUp_ge (fun x => !ltInt d[a]! x) d j i
  have u2 := scanUp_size (fun x => !ltInt d[a]! x) d j i hj hi'
  rw [iterL_eq, scanUpW _ (fun x => !ltInt d[a]! x) d a j hs hj (fun i h => partEqW_s1_at d a i j hs ha hj h) _ i many rfl hi' (by omega)]
  generalize scanUp (fun x => !ltInt d[a]! x) d j i = i2 at *
  have v1 := scanDown_le (fun x => ltInt d[a]! x) d i2 j
  simp only [iterL_eq]
  rw [scanDownW _ (fun x => ltInt d[a]! x) d a i2 (by omega) (fun j h => partEqW_s2_at d a i2 j hs ha h (by omega)) j many hj (by omega)]
  generalize scanDown (fun x => ltInt d[a]! x) d i2 j = j2 at *
  simp only [ilt_nat]
  by_cases h : j2 < i2
  · simp only [h, decide_true, gt_iff_lt, if_true]
  · have hi2 : i2 < d.size := by omega
    have hj2 : j2 < d.size := by omega
    simp only [h, decide_false, gt_iff_lt, if_false, idx_at hi2, idx_at hj2, (swapW hi2 hj2).1, (swapW hi2 hj2).2]
    simp (disch := omega) only [wrap_add1, wrap_sub1]
    exact ih (j2 - 1 + 1 - (i2 + 1)) (by omega) (i2 + 1) (j2 - 1) (swp d i2 j2) n rfl (by rw [size_swp]; omega) (by omega) (by rw [size_swp]; omega) (by rw [size_swp]; omega) (by rw [size_swp]; omega) (by omega)

theorem partEqW_val (d : Array Int) (a b p : Nat) (ha : a ≤ p) (hp : p < b) (hb : b ≤ d.size) (hs : d.size < 4294967296) :
    partEqW (d.toList, (a : Int), (b : Int), (p : Int), ()) = some ((partitionEqual ltInt d a b p).2.toList, (((partitionEqual ltInt d a b p).1 : Nat) : Int), ()) := by
  have hm : 4294967296 < many := by simp only [many]; omega
  have ha' : a < d.size := by omega
  have hp' : p < d.size := by omega
  rw [partEqW_eq, partEqW_d, partitionEqual]
  simp only [idx_at ha', idx_at hp', (swapW ha' hp').1, (swapW ha' hp').2]
  have hs' := hs
  rw [← size_swp d a p] at ha' hs' hb
  generalize swp d a p = d at *
  simp (disch := omega) only [wrap_add1, wrap_sub1, iterL_eq]
  rw [partEqW_loop a _ (a + 1) (b - 1) d many rfl ha' (by omega) (by omega) (by omega) hs' (by omega)]
end Go.Pev.Pl
end
section
namespace Go.Pev.Pl
open Go.Sort
theorem scanSorted_bounds (d : Array Int) (b : Nat) : ∀ (k i : Nat), b - i = k → i ≤ b → i ≤ scanSorted ltInt d b i ∧ scanSorted ltInt d b i ≤ b := by
  intro k
  induction k using Nat.strongRecOn with
  | _ k ih =>
  intro i hk hi
  rw [scanSorted]
  split
  · rename_i h
    have : i < b := by simp at h; exact h.1
    have := ih (b - (i + 1)) (by omega) (i + 1) rfl (by omega)
    omega
  · omega

theorem partInsW_scan (d : Array Int) (a b s : Nat) (hb : b ≤ d.size) (hs : d.size < 4294967296) : ∀ (k i n : Nat), b - i = k → 1 ≤ i → i ≤ b → k < n →
    iterO partInsW_s1 n (d.toList, (a : Int), (b : Int), (i : Int), (s : Int), ()) = some (.inl (d.toList, (a : Int), (b : Int), ((scanSorted ltInt d b i : Nat) : Int), (s : Int), ())) := by
  intro k
  induction k using Nat.strongRecOn with
  | _ k ih =>
  intro i n hk h1 hi hn
  obtain ⟨n, rfl⟩ : ∃ k, n = k + 1 := ⟨n - 1, by omega⟩
  rw [scanSorted, iterO, partInsW_s1]
  simp only [ilt_nat]
  by_cases h : i < b
  · have i0 : i < d.size := by omega
    have i1 : i - 1 < d.size := by omega
    simp (disch := omega) only [h, decide_true, wrap_sub1, wrap_add1, idx_at, dget_at, lessW_val, Bool.true_and]
    cases h2 : ltInt d[i]! d[i - 1]!
    · simp only [Bool.not_false, if_true]
      exact ih (b - (i + 1)) (by omega) (i + 1) n rfl (by omega) (by omega) (by omega)
    · simp only [Bool.not_true, Bool.false_eq_true, if_false]
  · simp only [h, decide_false, Bool.false_and, Bool.false_eq_true, if_false]

theorem partInsW_down (a b i s : Nat) : ∀ (j : Nat) (d : Array Int) (n : Nat), j < d.size → d.size < 4294967296 → j < n →
    iterO partInsW_s2 n (d.toList, (a : Int), (b : Int), (i : Int), (s : Int), (j : Int), ()) = some (.inl ((shiftDown ltInt j d).toList, (a : Int), (b : Int), (i : Int), (s : Int), ())) := by
  intro j
  induction j with
  | zero =>
    intro d n hj hs hn
    obtain ⟨n, rfl⟩ : ∃ k, n = k + 1 := ⟨n - 1, by omega⟩
    rw [iterO, partInsW_s2, ile_eq, decide_eq_false (by omega)]
    rfl
  | succ j ih =>
    intro d n hj hs hn
    obtain ⟨n, rfl⟩ : ∃ k, n = k + 1 := ⟨n - 1, by omega⟩
    have hj' : j < d.size := by omega
    rw [shiftDown, iterO, partInsW_s2, ile_eq, decide_eq_true (by omega)]
    simp (disch := omega) only [wrap_sub1, Nat.add_sub_cancel, idx_at, dget_at, lessW_val]
    cases h2 : ltInt d[j + 1]! d[j]!
    · simp only [Bool.not_false, if_true]
    · have e1 := swapW hj hj'
      simp only [dget_at hj, dget_at hj'] at e1
      simp only [Bool.not_true, Bool.false_eq_true, if_false, e1]
      exact ih _ n (by rw [size_swp]; omega) (by rw [size_swp]; omega) (by omega)

theorem partInsW_up (a b i s : Nat) : ∀ (k j : Nat) (d : Array Int) (n : Nat), b - j = k → 1 ≤ j → b ≤ d.size → d.size < 4294967296 → k < n →
    iterO partInsW_s3 n (d.toList, (a : Int), (b : Int), (i : Int), (s : Int), (j : Int), ()) = some (.inl ((shiftUp ltInt b j d).toList, (a : Int), (b : Int), (i : Int), (s : Int), ())) := by
  intro k
  induction k using Nat.strongRecOn with
  | _ k ih =>
  intro j d n hk h1 hb hs hn
  obtain ⟨n, rfl⟩ : ∃ k, n = k + 1 := ⟨n - 1, by omega⟩
  rw [shiftUp, iterO, partInsW_s3]
  simp only [ilt_nat]
  by_cases h : j < b
  · have i0 : j < d.size := by omega
    have i1 : j - 1 < d.size := by omega
    simp (disch := omega) only [h, decide_true, if_true, wrap_sub1, wrap_add1, idx_at, dget_at, lessW_val]
    cases h2 : ltInt d[j]! d[j - 1]!
    · simp only [Bool.not_false, if_true]
    · have e1 := swapW i0 i1
      simp only [dget_at i0, dget_at i1] at e1
      simp only [Bool.not_true, Bool.false_eq_true, if_false, e1]
      exact ih (b - (j + 1)) (by omega) (j + 1) _ n rfl (by omega) (by rw [size_swp]; omega) (by rw [size_swp]; omega) (by omega)
  · simp only [h, decide_false, if_false]

theorem size_shiftDown : ∀ (j : Nat) (d : Array Int), (shiftDown ltInt j d).size = d.size := by
  intro j
  induction j with
  | zero => intro d; rfl
  | succ j ih =>
    intro d
    rw [shiftDown]
    split
    · rfl
    · rw [ih, size_swp]
theorem size_shiftUp (b : Nat) : ∀ (k j : Nat) (d : Array Int), b - j = k → (shiftUp ltInt b j d).size = d.size := by
  intro k
  induction k using Nat.strongRecOn with
  | _ k ih =>
  intro j d hk
  rw [shiftUp]
  split
  · split
    · rfl
    · rw [ih (b - (j + 1)) (by omega) (j + 1) _ rfl, size_swp]
  · rfl

theorem partInsW_loop (a b : Nat) (hab : a < b) : ∀ (k i s : Nat) (d : Array Int) (n : Nat), s + k = 5 → a + 1 ≤ i → i ≤ b → b ≤ d.size → d.size < 4294967296 → k < n →
    iterO partInsW_s0 n (d.toList, (a : Int), (b : Int), (i : Int), (s : Int), ()) = some (.inl ((partialIns ltInt a b k i d).1.toList, (partialIns ltInt a b k i d).2, ())) ∨
    ((partialIns ltInt a b k i d).2 = false ∧ iterO partInsW_s0 n (d.toList, (a : Int), (b : Int), (i : Int), (s : Int), ()) = some (.inr (.inl ((partialIns ltInt a b k i d).1.toList, ())))) := by
  intro k
  induction k with
  | zero =>
    intro i s d n hk h1 hi hb hs hn
    obtain ⟨n, rfl⟩ : ∃ k, n = k + 1 := ⟨n - 1, by omega⟩
    rw [iterO, partInsW_s0, ilt_eq, decide_eq_false (by omega)]
    exact .inr ⟨rfl, rfl⟩
  | succ k ih =>
    intro i s d n hk h1 hi hb hs hn
    have hm : 4294967296 < many := by simp only [many]; omega
    have es : IntKind.wrap .i64 ((s : Int) + 1) = ((s + 1 : Nat) : Int) := wrap_add1 (by omega)
    obtain ⟨n, rfl⟩ : ∃ k, n = k + 1 := ⟨n - 1, by omega⟩
    rw [iterO, partInsW_s0, ilt_eq, decide_eq_true (by omega), partialIns]
    simp only [iterL_eq, partInsW_scan d a b s hb hs (b - i) i many rfl (by omega) hi (by omega)]
    have hsc := scanSorted_bounds d b _ i rfl hi
    generalize scanSorted ltInt d b i = i2 at *
    simp only [ieq_nat]
    by_cases h2 : i2 = b
    · simp only [h2, decide_true, if_true, true_or]
    · simp (disch := omega) only [h2, decide_false, if_false, wrap_sub, ilt_eq, ile_eq]
      by_cases h3 : b - a < 50
      · rw [if_pos h3, decide_eq_true (by omega)]
        exact .inl rfl
      · have i0 : i2 < d.size := by omega
        have i1 : i2 - 1 < d.size := by omega
        rw [if_neg h3, decide_eq_false (by omega)]
        simp (disch := omega) only [wrap_sub1, wrap_add1, idx_at i0, idx_at i1, (swapW i0 i1).1, (swapW i0 i1).2]
        have hsz := size_swp d i2 (i2 - 1)
        generalize swp d i2 (i2 - 1) = d2 at *
        by_cases h4 : i2 - a ≥ 2
        · rw [if_pos h4, decide_eq_true (show (2 : Int) ≤ ((i2 - a : Nat) : Int) by omega)]
          simp only [partInsW_down a b i2 s (i2 - 1) d2 many (by omega) (by omega) (by omega)]
          have hsz2 := size_shiftDown (i2 - 1) d2
          generalize shiftDown ltInt (i2 - 1) d2 = d3 at *
          simp (disch := omega) only [wrap_sub, wrap_add1]
          by_cases h5 : b - i2 ≥ 2
          · rw [if_pos h5, decide_eq_true (show (2 : Int) ≤ ((b - i2 : Nat) : Int) by omega)]
            simp only [partInsW_up a b i2 s _ (i2 + 1) d3 many rfl (by omega) (by omega) (by omega) (by omega)]
            simp only [es]
            exact ih i2 (s + 1) (shiftUp ltInt b (i2 + 1) d3) n (by omega) (by omega) (by omega) (by rw [size_shiftUp b (b - (i2 + 1)) (i2 + 1) _ rfl]; omega) (by rw [size_shiftUp b (b - (i2 + 1)) (i2 + 1) _ rfl]; omega) (by omega)
          · rw [if_neg h5, decide_eq_false (show ¬ (2 : Int) ≤ ((b - i2 : Nat) : Int) by omega)]
            simp only [es]
            exact ih i2 (s + 1) d3 n (by omega) (by omega) (by omega) (by omega) (by omega) (by omega)
        · rw [if_neg h4, decide_eq_false (show ¬ (2 : Int) ≤ ((i2 - a : Nat) : Int) by omega)]
          by_cases h5 : b - i2 ≥ 2
          · rw [if_pos h5, decide_eq_true (show (2 : Int) ≤ ((b - i2 : Nat) : Int) by omega)]
            simp only [partInsW_up a b i2 s _ (i2 + 1) d2 many rfl (by omega) (by omega) (by omega) (by omega)]
            simp only [es]
            exact ih i2 (s + 1) (shiftUp ltInt b (i2 + 1) d2) n (by omega) (by omega) (by omega) (by rw [size_shiftUp b (b - (i2 + 1)) (i2 + 1) _ rfl]; omega) (by rw [size_shiftUp b (b - (i2 + 1)) (i2 + 1) _ rfl]; omega) (by omega)
          · rw [if_neg h5, decide_eq_false (show ¬ (2 : Int) ≤ ((b - i2 : Nat) : Int) by omega)]
            simp only [es]
            exact ih i2 (s + 1) d2 n (by omega) (by omega) (by omega) (by omega) (by omega) (by omega)

theorem partInsW_val (d : Array Int) (a b : Nat) (hab : a < b) (hb : b ≤ d.size) (hs : d.size < 4294967296) :
    partInsW (d.toList, (a : Int), (b : Int), ()) = some ((partialInsertionSort ltInt d a b).1.toList, (partialInsertionSort ltInt d a b).2, ()) := by
  have hm : 4294967296 < many := by simp only [many]; omega
  rw [partInsW_eq, partInsW_d, partialInsertionSort]
  simp (disch := omega) only [wrap_add1, iterL_eq]
  have h := partInsW_loop a b hab 5 (a + 1) 0 d many rfl (Nat.le_refl _) (by omega) hb hs (by omega)
  rcases h with h | ⟨h0, h⟩
  · have h' : iterO partInsW_s0 many (d.toList, (a : Int), (b : Int), ((a + 1 : Nat) : Int), (0 : Int), ()) = _ := h
    rw [h']
  · have h' : iterO partInsW_s0 many (d.toList, (a : Int), (b : Int), ((a + 1 : Nat) : Int), (0 : Int), ()) = _ := h
    rw [h', h0]

/- the pivot: of it only its place is told -/
theorem order2W_val (d : Array Int) (a b : Nat) (s : Int) (ha : a < d.size) (hb : b < d.size) :
    ∃ s' p q, order2W (d.toList, (a : Int), (b : Int), s, ()) = some (d.toList, s', ((p : Nat) : Int), ((q : Nat) : Int), ()) ∧ (p = a ∧ q = b ∨ p = b ∧ q = a) := by
  rw [order2W_eq, order2W_d]
  simp only [idx_at ha, idx_at hb, dget_at ha, dget_at hb, lessW_val]
  cases ltInt d[b]! d[a]!
  · exact ⟨_, a, b, rfl, .inl ⟨rfl, rfl⟩⟩
  · exact ⟨_, b, a, rfl, .inr ⟨rfl, rfl⟩⟩

theorem medianW_val (d : Array Int) (a b c : Nat) (s : Int) (ha : a < d.size) (hb : b < d.size) (hc : c < d.size) :
    ∃ s' p, medianW (d.toList, (a : Int), (b : Int), (c : Int), s, ()) = some (d.toList, s', ((p : Nat) : Int), ()) ∧ (p = a ∨ p = b ∨ p = c) := by
  rw [medianW_eq, medianW_d]
  obtain ⟨s1, p1, q1, e1, h1⟩ := order2W_val d a b s ha hb
  simp only [e1]
  obtain ⟨s2, p2, q2, e2, h2⟩ := order2W_val d q1 c s1 (by omega) hc
  simp only [e2]
  obtain ⟨s3, p3, q3, e3, h3⟩ := order2W_val d p1 p2 s2 (by omega) (by omega)
  simp only [e3]
  exact ⟨_, q3, rfl, by omega⟩

theorem medAdjW_val (d : Array Int) (a : Nat) (s : Int) (h1 : 1 ≤ a) (ha : a + 1 < d.size) (hs : d.size < 4294967296) :
    ∃ s' p, medAdjW (d.toList, (a : Int), s, ()) = some (d.toList, s', ((p : Nat) : Int), ()) ∧ a ≤ p + 1 ∧ p ≤ a + 1 := by
  rw [medAdjW_eq, medAdjW_d]
  simp (disch := omega) only [wrap_sub1, wrap_add1]
  obtain ⟨s1, p1, e1, h1⟩ := medianW_val d (a - 1) a (a + 1) s (by omega) (by omega) ha
  simp only [e1]
  exact ⟨_, p1, rfl, by omega⟩

theorem pivotW_val (d : Array Int) (a b : Nat) (hab : a + 8 ≤ b) (hb : b ≤ d.size) (hs : d.size < 4294967296) :
    ∃ p h, pivotW (d.toList, (a : Int), (b : Int), ()) = some (d.toList, ((p : Nat) : Int), h, ()) ∧ a ≤ p ∧ p < b := by
  rw [pivotW_eq, pivotW_d]
  simp (disch := omega) only [wrap_sub, quo_4, wrap_mul1, wrap_mul2, wrap_mul3, wrap_add, ile_eq]
  rw [decide_eq_true (show (8 : Int) ≤ ((b - a : Nat) : Int) by omega)]
  simp only []
  by_cases h : 50 ≤ b - a
  · rw [decide_eq_true (show (50 : Int) ≤ ((b - a : Nat) : Int) by omega)]
    simp only []
    obtain ⟨s1, p1, e1, h1⟩ := medAdjW_val d (a + (b - a) / 4 * 1) 0 (by omega) (by omega) hs
    simp only [e1]
    obtain ⟨s2, p2, e2, h2⟩ := medAdjW_val d (a + (b - a) / 4 * 2) s1 (by omega) (by omega) hs
    simp only [e2]
    obtain ⟨s3, p3, e3, h3⟩ := medAdjW_val d (a + (b - a) / 4 * 3) s2 (by omega) (by omega) hs
    simp only [e3]
    obtain ⟨s4, p4, e4, h4⟩ := medianW_val d p1 p2 p3 s3 (by omega) (by omega) (by omega)
    simp only [e4]
    cases ieq s4 0
    · cases ieq s4 12
      · exact ⟨p4, _, rfl, by omega, by omega⟩
      · exact ⟨p4, _, rfl, by omega, by omega⟩
    · exact ⟨p4, _, rfl, by omega, by omega⟩
  · rw [decide_eq_false (show ¬ (50 : Int) ≤ ((b - a : Nat) : Int) by omega)]
    simp only []
    obtain ⟨s4, p4, e4, h4⟩ := medianW_val d (a + (b - a) / 4 * 1) (a + (b - a) / 4 * 2) (a + (b - a) / 4 * 3) 0 (by omega) (by omega) (by omega)
    simp only [e4]
    cases ieq s4 0
    · cases ieq s4 12
      · exact ⟨p4, _, rfl, by omega, by omega⟩
      · exact ⟨p4, _, rfl, by omega, by omega⟩
    · exact ⟨p4, _, rfl, by omega, by omega⟩
end Go.Pev.Pl
end
