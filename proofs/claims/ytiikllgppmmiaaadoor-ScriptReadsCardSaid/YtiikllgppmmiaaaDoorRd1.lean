/- What Go functions that the law ScriptReads uses come to, and why: part 18. Made out of the kit's print by a program of this session (wip/tools/stub.py, splice.py), functions that it does not take told by hand. -/
import Derived.Test.YtiikllgppmmiaaaDoorOScriptReadsx17
namespace Go.Proofs.YtiikllgppmmiaaaDoor.OScriptReads
open Go.RowKit Go.Proofs.YtiikllgppmmiaaaDoorW.PrintWords Go.Proofs.YtiikllgppmmiaaaDoorW.PrintLast Go.Proofs.YtiikllgppmmiaaaDoorW.PrintMore
attribute [local go_sem] max2_int min2_int max_two min_two max_three min_three max_four min_four   -- for this text's walks alone
set_option linter.unusedVariables false
set_option linter.unusedSimpArgs false
private theorem setCell_drewN_ (w : World) (n : Nat) (p : Addr) (u : Value) : (w.drewN n).setCell p u = (w.setCell p u).drewN n := by
  unfold World.setCell World.drewN
  split <;> rfl

/-! ### treelineref24_Read: function 10 -/
mutual
def treelineref24_Read.l0 : Nat → List Int → Int → Int → List Int → Int → Int → List (S51) → List (List Int) → Option (Int × (List (S51)) × (List (List Int)) × (List (S66)) × (List (S39)))
  | 0, _, _, _, _, _, _, _, _ => none
  | k + 1, x0, x6, x7, x356000, x356001, x357000, x357001, x357002 => if x7 < x6 then ((treelineref24_At_by.f x356000 x356001 4).bind fun bt362 => ((treelineref24_At_by.f x356000 bt362.2 2).bind fun bt364 => ((treelineref24_At_by.f x356000 bt364.2 20).bind fun bt366 => ((treelineref24_At_by.f x356000 bt366.2 9).bind fun bt368 => ((treelineref24_At_by.f x356000 bt368.2 16).bind fun bt370 => ((treelineref24_At_by.f x356000 bt370.2 4).bind fun bt372 => ((treelineref24_At_by.f x356000 bt372.2 3).bind fun bt374 => (treelineref24_Read.l1 k x0 x6 x7 (wrap64 (1 + bt374.1)) 0 x356000 bt374.2 x357000 x357001 x357002 (IntKind.u64.wrap (wrap64 (257 + x7))) (IntKind.u16.wrap (wrap64 (4096 * bt362.1))) (mx (wrap64 ((wrap64 ((wrap64 (2 * (wrap64 ((wrap64 (1 + bt364.1)) + 1)))) + 2)) + bt370.1)) 6) (wrap64 (1 + bt364.1)) (mx (wrap64 ((wrap64 ((wrap64 (Int.tdiv (wrap64 ((wrap64 ((wrap64 ((wrap64 (2 * (wrap64 ((wrap64 (1 + bt364.1)) + 1)))) + 2)) + bt370.1)) + 1)) 2)) + 1)) + bt372.1)) 4) (wrap64 (10 + bt366.1)) bt368.1 ([] : List (S63)))))))))) else ((treelineref24_At_by.f x356000 x356001 4).bind fun bt392 => (treelineref24_Read.l3 k x0 x6 bt392.1 0 x356000 bt392.2 x357000 x357001 x357002 ([] : List (S66))))
def treelineref24_Read.l1 : Nat → List Int → Int → Int → Int → Int → List Int → Int → Int → List (S51) → List (List Int) → Int → Int → Int → Int → Int → Int → Int → List (S63) → Option (Int × (List (S51)) × (List (List Int)) × (List (S66)) × (List (S39)))
  | 0, _, _, _, _, _, _, _, _, _, _, _, _, _, _, _, _, _, _ => none
  | k + 1, x0, x6, x7, x10, x11, x356000, x356001, x357000, x357001, x357002, x362000, x362001, x362002, x362003, x362004, x362005, x362006, x362007 => if x11 < x10 then ((treelineref24_At_by.f x356000 x356001 256).bind fun bt376 => (if x362007.length < 11728124029610 then (treelineref24_Read.l1 k x0 x6 x7 x10 (wrap64 (x11 + 1)) x356000 bt376.2 x357000 x357001 x357002 x362000 x362001 x362002 x362003 x362004 x362005 x362006 (x362007 ++ [(⟨128, (wrap64 (1 + (Int.tmod bt376.1 50))) % 4294967296, decide (bt376.1 < 230)⟩ : S63)])) else (none))) else (treelineref24_Read.l2 k x0 x6 x7 x10 ([] : List Int) 0 x356000 x356001 x357000 x357001 x357002 x362000 x362001 x362002 x362003 x362004 x362005 x362006 x362007)
def treelineref24_Read.l2 : Nat → List Int → Int → Int → Int → List Int → Int → List Int → Int → Int → List (S51) → List (List Int) → Int → Int → Int → Int → Int → Int → Int → List (S63) → Option (Int × (List (S51)) × (List (List Int)) × (List (S66)) × (List (S39)))
  | 0, _, _, _, _, _, _, _, _, _, _, _, _, _, _, _, _, _, _, _ => none
  | k + 1, x0, x6, x7, x10, x13, x14, x356000, x356001, x357000, x357001, x357002, x362000, x362001, x362002, x362003, x362004, x362005, x362006, x362007 => if x14 < x10 then ((treelineref24_At_by.f x356000 x356001 x357000).bind fun bt381 => (if x13.length < 17592186044416 then (treelineref24_Read.l2 k x0 x6 x7 x10 (x13 ++ [bt381.1]) (wrap64 (x14 + 1)) x356000 bt381.2 x357000 x357001 x357002 x362000 x362001 x362002 x362003 x362004 x362005 x362006 x362007) else (none))) else (if x357001.length < 1759218604441 then (if x357002.length < 5864062014805 then (treelineref24_Read.l0 k x0 x6 (wrap64 (x7 + 1)) x356000 x356001 x357000 (x357001 ++ [(⟨x362000, x362001, x362002, x362003, x362004, x362005, x362006, x362007⟩ : S51)]) (x357002 ++ [x13])) else (none)) else (none))
def treelineref24_Read.l3 : Nat → List Int → Int → Int → Int → List Int → Int → Int → List (S51) → List (List Int) → List (S66) → Option (Int × (List (S51)) × (List (List Int)) × (List (S66)) × (List (S39)))
  | 0, _, _, _, _, _, _, _, _, _, _ => none
  | k + 1, x0, x6, x15, x16, x356000, x356001, x357000, x357001, x357002, x357003 => if x16 < x15 then ((treelineref24_At_by.f x356000 x356001 x357000).bind fun bt394 => (if x357003.length < 8796093022208 then (treelineref24_Read.l3 k x0 x6 x15 (wrap64 (x16 + 1)) x356000 bt394.2 x357000 x357001 x357002 (x357003 ++ [(⟨IntKind.u64.wrap (wrap64 (513 + x16)), bt394.1⟩ : S66)])) else (none))) else (treelineref24_Read.l4 k x0 x6 ([] : List (S39)) x356000 x356001 x357000 x357001 x357002 x357003)
def treelineref24_Read.l4 : Nat → List Int → Int → List (S39) → List Int → Int → Int → List (S51) → List (List Int) → List (S66) → Option (Int × (List (S51)) × (List (List Int)) × (List (S66)) × (List (S39)))
  | 0, _, _, _, _, _, _, _, _, _ => none
  | k + 1, x0, x6, x17, x356000, x356001, x357000, x357001, x357002, x357003 => if x356001 < (x0.length : Int) then (treelineref24_Read.j5 k x0 x6 x17 (decide ((x17.length : Int) < 8000)) x356000 x356001 x357000 x357001 x357002 x357003) else (treelineref24_Read.j5 k x0 x6 x17 false x356000 x356001 x357000 x357001 x357002 x357003)
def treelineref24_Read.j5 : Nat → List Int → Int → List (S39) → Bool → List Int → Int → Int → List (S51) → List (List Int) → List (S66) → Option (Int × (List (S51)) × (List (List Int)) × (List (S66)) × (List (S39)))
  | 0, _, _, _, _, _, _, _, _, _, _ => none
  | k + 1, x0, x6, x17, x159, x356000, x356001, x357000, x357001, x357002, x357003 => if x159 = true then ((treelineref24_At_by.f x356000 x356001 256).bind fun bt399 => (if (Int.tmod bt399.1 7) = 0 then (treelineref24_Read.j6 k x0 x6 x17 bt399.1 true x356000 bt399.2 x357000 x357001 x357002 x357003 (Int.tmod bt399.1 7) 0 0 false 0) else (if (Int.tmod bt399.1 7) = 4 then (treelineref24_Read.j6 k x0 x6 x17 bt399.1 true x356000 bt399.2 x357000 x357001 x357002 x357003 (Int.tmod bt399.1 7) 0 0 false 0) else (treelineref24_Read.j6 k x0 x6 x17 bt399.1 ((Int.tmod bt399.1 7) == 5) x356000 bt399.2 x357000 x357001 x357002 x357003 (Int.tmod bt399.1 7) 0 0 false 0)))) else (some (x357000, x357001, x357002, x357003, x17))
def treelineref24_Read.j6 : Nat → List Int → Int → List (S39) → Int → Bool → List Int → Int → Int → List (S51) → List (List Int) → List (S66) → Int → Int → Int → Bool → Int → Option (Int × (List (S51)) × (List (List Int)) × (List (S66)) × (List (S39)))
  | 0, _, _, _, _, _, _, _, _, _, _, _, _, _, _, _, _ => none
  | k + 1, x0, x6, x17, x18, x177, x356000, x356001, x357000, x357001, x357002, x357003, x402000, x402001, x402002, x402003, x402004 => if x177 = true then ((treelineref24_At_by.f x356000 x356001 x6).bind fun bt402 => (treelineref24_Read.j7 k x0 x6 x17 x18 x356000 bt402.2 x357000 x357001 x357002 x357003 x402000 bt402.1 x402002 x402003 x402004)) else (treelineref24_Read.j7 k x0 x6 x17 x18 x356000 x356001 x357000 x357001 x357002 x357003 x402000 x402001 x402002 x402003 x402004)
def treelineref24_Read.j7 : Nat → List Int → Int → List (S39) → Int → List Int → Int → Int → List (S51) → List (List Int) → List (S66) → Int → Int → Int → Bool → Int → Option (Int × (List (S51)) × (List (List Int)) × (List (S66)) × (List (S39)))
  | 0, _, _, _, _, _, _, _, _, _, _, _, _, _, _, _ => none
  | k + 1, x0, x6, x17, x18, x356000, x356001, x357000, x357001, x357002, x357003, x402000, x402001, x402002, x402003, x402004 => if x402000 = 5 then ((treelineref24_At_by.f x356000 x356001 3).bind fun bt404 => (treelineref24_Read.j8 k x0 x6 x17 x18 x356000 bt404.2 x357000 x357001 x357002 x357003 x402000 x402001 bt404.1 (decide (x18 < 128)) x402004)) else (treelineref24_Read.j8 k x0 x6 x17 x18 x356000 x356001 x357000 x357001 x357002 x357003 x402000 x402001 x402002 x402003 x402004)
def treelineref24_Read.j8 : Nat → List Int → Int → List (S39) → Int → List Int → Int → Int → List (S51) → List (List Int) → List (S66) → Int → Int → Int → Bool → Int → Option (Int × (List (S51)) × (List (List Int)) × (List (S66)) × (List (S39)))
  | 0, _, _, _, _, _, _, _, _, _, _, _, _, _, _, _ => none
  | k + 1, x0, x6, x17, x18, x356000, x356001, x357000, x357001, x357002, x357003, x402000, x402001, x402002, x402003, x402004 => if x402000 ≥ 1 then (treelineref24_Read.j9 k x0 x6 x17 x18 (decide (x402000 ≤ 3)) x356000 x356001 x357000 x357001 x357002 x357003 x402000 x402001 x402002 x402003 x402004) else (treelineref24_Read.j9 k x0 x6 x17 x18 false x356000 x356001 x357000 x357001 x357002 x357003 x402000 x402001 x402002 x402003 x402004)
def treelineref24_Read.j9 : Nat → List Int → Int → List (S39) → Int → Bool → List Int → Int → Int → List (S51) → List (List Int) → List (S66) → Int → Int → Int → Bool → Int → Option (Int × (List (S51)) × (List (List Int)) × (List (S66)) × (List (S39)))
  | 0, _, _, _, _, _, _, _, _, _, _, _, _, _, _, _, _ => none
  | k + 1, x0, x6, x17, x18, x198, x356000, x356001, x357000, x357001, x357002, x357003, x402000, x402001, x402002, x402003, x402004 => if x198 = true then ((treelineref24_At_by.f x356000 x356001 x357000).bind fun bt406 => (treelineref24_Read.j10 k x0 x6 x17 x18 x356000 bt406.2 x357000 x357001 x357002 x357003 x402000 bt406.1 x402002 x402003 x402004)) else (treelineref24_Read.j10 k x0 x6 x17 x18 x356000 x356001 x357000 x357001 x357002 x357003 x402000 x402001 x402002 x402003 x402004)
def treelineref24_Read.j10 : Nat → List Int → Int → List (S39) → Int → List Int → Int → Int → List (S51) → List (List Int) → List (S66) → Int → Int → Int → Bool → Int → Option (Int × (List (S51)) × (List (List Int)) × (List (S66)) × (List (S39)))
  | 0, _, _, _, _, _, _, _, _, _, _, _, _, _, _, _ => none
  | k + 1, x0, x6, x17, x18, x356000, x356001, x357000, x357001, x357002, x357003, x402000, x402001, x402002, x402003, x402004 => if x402000 = 1 then (treelineref24_Read.j11 k x0 x6 x17 x18 true x356000 x356001 x357000 x357001 x357002 x357003 x402000 x402001 x402002 x402003 x402004) else (treelineref24_Read.j11 k x0 x6 x17 x18 (x402000 == 2) x356000 x356001 x357000 x357001 x357002 x357003 x402000 x402001 x402002 x402003 x402004)
def treelineref24_Read.j11 : Nat → List Int → Int → List (S39) → Int → Bool → List Int → Int → Int → List (S51) → List (List Int) → List (S66) → Int → Int → Int → Bool → Int → Option (Int × (List (S51)) × (List (List Int)) × (List (S66)) × (List (S39)))
  | 0, _, _, _, _, _, _, _, _, _, _, _, _, _, _, _, _ => none
  | k + 1, x0, x6, x17, x18, x211, x356000, x356001, x357000, x357001, x357002, x357003, x402000, x402001, x402002, x402003, x402004 => if x211 = true then ((treelineref24_At_by.f x356000 x356001 256).bind fun bt408 => (treelineref24_Read.j12 k x0 x6 x17 x18 x356000 bt408.2 x357000 x357001 x357002 x357003 x402000 x402001 bt408.1 x402003 x402004)) else (treelineref24_Read.j12 k x0 x6 x17 x18 x356000 x356001 x357000 x357001 x357002 x357003 x402000 x402001 x402002 x402003 x402004)
def treelineref24_Read.j12 : Nat → List Int → Int → List (S39) → Int → List Int → Int → Int → List (S51) → List (List Int) → List (S66) → Int → Int → Int → Bool → Int → Option (Int × (List (S51)) × (List (List Int)) × (List (S66)) × (List (S39)))
  | 0, _, _, _, _, _, _, _, _, _, _, _, _, _, _, _ => none
  | k + 1, x0, x6, x17, x18, x356000, x356001, x357000, x357001, x357002, x357003, x402000, x402001, x402002, x402003, x402004 => if x402000 = 3 then ((treelineref24_At_by.f x356000 x356001 60).bind fun bt410 => (treelineref24_Read.l5 k x0 x6 x17 x18 bt410.1 0 x356000 bt410.2 x357000 x357001 x357002 x357003 x402000 x402001 x402002 x402003 x402004 ([] : List Int))) else (treelineref24_Read.j14 k x0 x6 x17 x356000 x356001 x357000 x357001 x357002 x357003 x402000 x402001 x402002 x402003 x402004 ([] : List Int))
def treelineref24_Read.j14 : Nat → List Int → Int → List (S39) → List Int → Int → Int → List (S51) → List (List Int) → List (S66) → Int → Int → Int → Bool → Int → List Int → Option (Int × (List (S51)) × (List (List Int)) × (List (S66)) × (List (S39)))
  | 0, _, _, _, _, _, _, _, _, _, _, _, _, _, _, _ => none
  | k + 1, x0, x6, x17, x356000, x356001, x357000, x357001, x357002, x357003, x402000, x402001, x402002, x402003, x402004, x402005 => if x402000 = 6 then ((treelineref24_At_by.f x356000 x356001 4).bind fun bt426 => ((treelineref24_At_by.f x356000 bt426.2 5).bind fun bt428 => (if bt428.1 = 4 then (treelineref24_Read.j15 k x0 x6 x17 x356000 bt428.2 x357000 x357001 x357002 x357003 x402000 bt426.1 x402002 x402003 281474976710655 x402005) else (treelineref24_Read.j15 k x0 x6 x17 x356000 bt428.2 x357000 x357001 x357002 x357003 x402000 bt426.1 x402002 x402003 (IntKind.u64.wrap (wrap64 (513 + bt428.1))) x402005)))) else (if x17.length < 2199023255552 then (treelineref24_Read.l4 k x0 x6 (x17 ++ [(⟨x402000, x402001, x402002, x402003, x402004, x402005⟩ : S39)]) x356000 x356001 x357000 x357001 x357002 x357003) else (none))
def treelineref24_Read.j15 : Nat → List Int → Int → List (S39) → List Int → Int → Int → List (S51) → List (List Int) → List (S66) → Int → Int → Int → Bool → Int → List Int → Option (Int × (List (S51)) × (List (List Int)) × (List (S66)) × (List (S39)))
  | 0, _, _, _, _, _, _, _, _, _, _, _, _, _, _, _ => none
  | k + 1, x0, x6, x17, x356000, x356001, x357000, x357001, x357002, x357003, x402000, x402001, x402002, x402003, x402004, x402005 => (treelineref24_At_by.f x356000 x356001 3).bind fun bt430 => (treelineref24_Read.l6 k x0 x6 x17 bt430.1 0 x356000 bt430.2 x357000 x357001 x357002 x357003 x402000 x402001 x402002 x402003 x402004 x402005)
def treelineref24_Read.l6 : Nat → List Int → Int → List (S39) → Int → Int → List Int → Int → Int → List (S51) → List (List Int) → List (S66) → Int → Int → Int → Bool → Int → List Int → Option (Int × (List (S51)) × (List (List Int)) × (List (S66)) × (List (S39)))
  | 0, _, _, _, _, _, _, _, _, _, _, _, _, _, _, _, _, _ => none
  | k + 1, x0, x6, x17, x24, x25, x356000, x356001, x357000, x357001, x357002, x357003, x402000, x402001, x402002, x402003, x402004, x402005 => if x25 < x24 then ((treelineref24_At_by.f x356000 x356001 256).bind fun bt432 => (if x402005.length < 140737488355328 then (treelineref24_Read.l6 k x0 x6 x17 x24 (wrap64 (x25 + 1)) x356000 bt432.2 x357000 x357001 x357002 x357003 x402000 x402001 x402002 x402003 x402004 (x402005 ++ [(bt432.1) % 256])) else (none))) else (if x17.length < 2199023255552 then (treelineref24_Read.l4 k x0 x6 (x17 ++ [(⟨x402000, x402001, x402002, x402003, x402004, x402005⟩ : S39)]) x356000 x356001 x357000 x357001 x357002 x357003) else (none))
def treelineref24_Read.l5 : Nat → List Int → Int → List (S39) → Int → Int → Int → List Int → Int → Int → List (S51) → List (List Int) → List (S66) → Int → Int → Int → Bool → Int → List Int → Option (Int × (List (S51)) × (List (List Int)) × (List (S66)) × (List (S39)))
  | 0, _, _, _, _, _, _, _, _, _, _, _, _, _, _, _, _, _, _ => none
  | k + 1, x0, x6, x17, x18, x20, x21, x356000, x356001, x357000, x357001, x357002, x357003, x402000, x402001, x402002, x402003, x402004, x402005 => if x21 < x20 then ((treelineref24_At_by.f x356000 x356001 256).bind fun bt412 => (if x402005.length < 140737488355328 then (treelineref24_Read.l5 k x0 x6 x17 x18 x20 (wrap64 (x21 + 1)) x356000 bt412.2 x357000 x357001 x357002 x357003 x402000 x402001 x402002 x402003 x402004 (x402005 ++ [(bt412.1) % 256])) else (none))) else (if x18 < 128 then ((some (([66, 66, 3] : List Int) : List Int)).bind fun y417 => (if y417.length + x402005.length < 140737488355328 then ((some (y417 ++ x402005 : List Int)).bind fun y420 => ((treelineref04_Put.f k 1652522221568 769 (IntKind.u16.wrap ((y420.length : Int))) y420).bind fun t423 => (treelineref24_Read.j14 k x0 x6 x17 x356000 x356001 x357000 x357001 x357002 x357003 x402000 x402001 x402002 x402003 x402004 t423))) else (none))) else (treelineref24_Read.j14 k x0 x6 x17 x356000 x356001 x357000 x357001 x357002 x357003 x402000 x402001 x402002 x402003 x402004 x402005))
end
def treelineref24_Read.f (k : Nat) (l0 : List Int) : Option (Int × (List (S51)) × (List (List Int)) × (List (S66)) × (List (S39))) := (treelinelaw24_ScriptFront.f l0).bind fun bt353 => ((treelineref24_At_by.f bt353.1 bt353.2 5).bind fun bt357 => ((treelineref24_At_by.f bt353.1 bt357.2 4).bind fun bt359 => (treelineref24_Read.l0 k l0 (wrap64 (1 + bt359.1)) 0 bt353.1 bt359.2 (wrap64 (1 + bt357.1)) ([] : List (S51)) ([] : List (List Int)))))
theorem treelineref24_Read.mono_l : ∀ k, (∀ y0 y1 y2 y3 y4 y5 y6 y7, LeO (treelineref24_Read.l0 k y0 y1 y2 y3 y4 y5 y6 y7) (treelineref24_Read.l0 (k + 1) y0 y1 y2 y3 y4 y5 y6 y7)) ∧ (∀ y0 y1 y2 y3 y4 y5 y6 y7 y8 y9 y10 y11 y12 y13 y14 y15 y16 y17, LeO (treelineref24_Read.l1 k y0 y1 y2 y3 y4 y5 y6 y7 y8 y9 y10 y11 y12 y13 y14 y15 y16 y17) (treelineref24_Read.l1 (k + 1) y0 y1 y2 y3 y4 y5 y6 y7 y8 y9 y10 y11 y12 y13 y14 y15 y16 y17)) ∧ (∀ y0 y1 y2 y3 y4 y5 y6 y7 y8 y9 y10 y11 y12 y13 y14 y15 y16 y17 y18, LeO (treelineref24_Read.l2 k y0 y1 y2 y3 y4 y5 y6 y7 y8 y9 y10 y11 y12 y13 y14 y15 y16 y17 y18) (treelineref24_Read.l2 (k + 1) y0 y1 y2 y3 y4 y5 y6 y7 y8 y9 y10 y11 y12 y13 y14 y15 y16 y17 y18)) ∧ (∀ y0 y1 y2 y3 y4 y5 y6 y7 y8 y9, LeO (treelineref24_Read.l3 k y0 y1 y2 y3 y4 y5 y6 y7 y8 y9) (treelineref24_Read.l3 (k + 1) y0 y1 y2 y3 y4 y5 y6 y7 y8 y9)) ∧ (∀ y0 y1 y2 y3 y4 y5 y6 y7 y8, LeO (treelineref24_Read.l4 k y0 y1 y2 y3 y4 y5 y6 y7 y8) (treelineref24_Read.l4 (k + 1) y0 y1 y2 y3 y4 y5 y6 y7 y8)) ∧ (∀ y0 y1 y2 y3 y4 y5 y6 y7 y8 y9, LeO (treelineref24_Read.j5 k y0 y1 y2 y3 y4 y5 y6 y7 y8 y9) (treelineref24_Read.j5 (k + 1) y0 y1 y2 y3 y4 y5 y6 y7 y8 y9)) ∧ (∀ y0 y1 y2 y3 y4 y5 y6 y7 y8 y9 y10 y11 y12 y13 y14 y15, LeO (treelineref24_Read.j6 k y0 y1 y2 y3 y4 y5 y6 y7 y8 y9 y10 y11 y12 y13 y14 y15) (treelineref24_Read.j6 (k + 1) y0 y1 y2 y3 y4 y5 y6 y7 y8 y9 y10 y11 y12 y13 y14 y15)) ∧ (∀ y0 y1 y2 y3 y4 y5 y6 y7 y8 y9 y10 y11 y12 y13 y14, LeO (treelineref24_Read.j7 k y0 y1 y2 y3 y4 y5 y6 y7 y8 y9 y10 y11 y12 y13 y14) (treelineref24_Read.j7 (k + 1) y0 y1 y2 y3 y4 y5 y6 y7 y8 y9 y10 y11 y12 y13 y14)) ∧ (∀ y0 y1 y2 y3 y4 y5 y6 y7 y8 y9 y10 y11 y12 y13 y14, LeO (treelineref24_Read.j8 k y0 y1 y2 y3 y4 y5 y6 y7 y8 y9 y10 y11 y12 y13 y14) (treelineref24_Read.j8 (k + 1) y0 y1 y2 y3 y4 y5 y6 y7 y8 y9 y10 y11 y12 y13 y14)) ∧ (∀ y0 y1 y2 y3 y4 y5 y6 y7 y8 y9 y10 y11 y12 y13 y14 y15, LeO (treelineref24_Read.j9 k y0 y1 y2 y3 y4 y5 y6 y7 y8 y9 y10 y11 y12 y13 y14 y15) (treelineref24_Read.j9 (k + 1) y0 y1 y2 y3 y4 y5 y6 y7 y8 y9 y10 y11 y12 y13 y14 y15)) ∧ (∀ y0 y1 y2 y3 y4 y5 y6 y7 y8 y9 y10 y11 y12 y13 y14, LeO (treelineref24_Read.j10 k y0 y1 y2 y3 y4 y5 y6 y7 y8 y9 y10 y11 y12 y13 y14) (treelineref24_Read.j10 (k + 1) y0 y1 y2 y3 y4 y5 y6 y7 y8 y9 y10 y11 y12 y13 y14)) ∧ (∀ y0 y1 y2 y3 y4 y5 y6 y7 y8 y9 y10 y11 y12 y13 y14 y15, LeO (treelineref24_Read.j11 k y0 y1 y2 y3 y4 y5 y6 y7 y8 y9 y10 y11 y12 y13 y14 y15) (treelineref24_Read.j11 (k + 1) y0 y1 y2 y3 y4 y5 y6 y7 y8 y9 y10 y11 y12 y13 y14 y15)) ∧ (∀ y0 y1 y2 y3 y4 y5 y6 y7 y8 y9 y10 y11 y12 y13 y14, LeO (treelineref24_Read.j12 k y0 y1 y2 y3 y4 y5 y6 y7 y8 y9 y10 y11 y12 y13 y14) (treelineref24_Read.j12 (k + 1) y0 y1 y2 y3 y4 y5 y6 y7 y8 y9 y10 y11 y12 y13 y14)) ∧ (∀ y0 y1 y2 y3 y4 y5 y6 y7 y8 y9 y10 y11 y12 y13 y14, LeO (treelineref24_Read.j14 k y0 y1 y2 y3 y4 y5 y6 y7 y8 y9 y10 y11 y12 y13 y14) (treelineref24_Read.j14 (k + 1) y0 y1 y2 y3 y4 y5 y6 y7 y8 y9 y10 y11 y12 y13 y14)) ∧ (∀ y0 y1 y2 y3 y4 y5 y6 y7 y8 y9 y10 y11 y12 y13 y14, LeO (treelineref24_Read.j15 k y0 y1 y2 y3 y4 y5 y6 y7 y8 y9 y10 y11 y12 y13 y14) (treelineref24_Read.j15 (k + 1) y0 y1 y2 y3 y4 y5 y6 y7 y8 y9 y10 y11 y12 y13 y14)) ∧ (∀ y0 y1 y2 y3 y4 y5 y6 y7 y8 y9 y10 y11 y12 y13 y14 y15 y16, LeO (treelineref24_Read.l6 k y0 y1 y2 y3 y4 y5 y6 y7 y8 y9 y10 y11 y12 y13 y14 y15 y16) (treelineref24_Read.l6 (k + 1) y0 y1 y2 y3 y4 y5 y6 y7 y8 y9 y10 y11 y12 y13 y14 y15 y16)) ∧ (∀ y0 y1 y2 y3 y4 y5 y6 y7 y8 y9 y10 y11 y12 y13 y14 y15 y16 y17, LeO (treelineref24_Read.l5 k y0 y1 y2 y3 y4 y5 y6 y7 y8 y9 y10 y11 y12 y13 y14 y15 y16 y17) (treelineref24_Read.l5 (k + 1) y0 y1 y2 y3 y4 y5 y6 y7 y8 y9 y10 y11 y12 y13 y14 y15 y16 y17))
  | 0 => ⟨fun _ _ _ _ _ _ _ _ r h => by simp [treelineref24_Read.l0] at h, fun _ _ _ _ _ _ _ _ _ _ _ _ _ _ _ _ _ _ r h => by simp [treelineref24_Read.l1] at h, fun _ _ _ _ _ _ _ _ _ _ _ _ _ _ _ _ _ _ _ r h => by simp [treelineref24_Read.l2] at h, fun _ _ _ _ _ _ _ _ _ _ r h => by simp [treelineref24_Read.l3] at h, fun _ _ _ _ _ _ _ _ _ r h => by simp [treelineref24_Read.l4] at h, fun _ _ _ _ _ _ _ _ _ _ r h => by simp [treelineref24_Read.j5] at h, fun _ _ _ _ _ _ _ _ _ _ _ _ _ _ _ _ r h => by simp [treelineref24_Read.j6] at h, fun _ _ _ _ _ _ _ _ _ _ _ _ _ _ _ r h => by simp [treelineref24_Read.j7] at h, fun _ _ _ _ _ _ _ _ _ _ _ _ _ _ _ r h => by simp [treelineref24_Read.j8] at h, fun _ _ _ _ _ _ _ _ _ _ _ _ _ _ _ _ r h => by simp [treelineref24_Read.j9] at h, fun _ _ _ _ _ _ _ _ _ _ _ _ _ _ _ r h => by simp [treelineref24_Read.j10] at h, fun _ _ _ _ _ _ _ _ _ _ _ _ _ _ _ _ r h => by simp [treelineref24_Read.j11] at h, fun _ _ _ _ _ _ _ _ _ _ _ _ _ _ _ r h => by simp [treelineref24_Read.j12] at h, fun _ _ _ _ _ _ _ _ _ _ _ _ _ _ _ r h => by simp [treelineref24_Read.j14] at h, fun _ _ _ _ _ _ _ _ _ _ _ _ _ _ _ r h => by simp [treelineref24_Read.j15] at h, fun _ _ _ _ _ _ _ _ _ _ _ _ _ _ _ _ _ r h => by simp [treelineref24_Read.l6] at h, fun _ _ _ _ _ _ _ _ _ _ _ _ _ _ _ _ _ _ r h => by simp [treelineref24_Read.l5] at h⟩
  | k + 1 => by
    obtain ⟨ih0, ih1, ih2, ih3, ih4, ih5, ih6, ih7, ih8, ih9, ih10, ih11, ih12, ih13, ih14, ih15, ih16⟩ := treelineref24_Read.mono_l k
    refine ⟨?_, ?_, ?_, ?_, ?_, ?_, ?_, ?_, ?_, ?_, ?_, ?_, ?_, ?_, ?_, ?_, ?_⟩
    · intro y0 y1 y2 y3 y4 y5 y6 y7
      unfold treelineref24_Read.l0
      repeat' first
      | (with_reducible apply ih0)
      | (with_reducible apply ih1)
      | (with_reducible apply ih2)
      | (with_reducible apply ih3)
      | (with_reducible apply ih4)
      | (with_reducible apply ih5)
      | (with_reducible apply ih6)
      | (with_reducible apply ih7)
      | (with_reducible apply ih8)
      | (with_reducible apply ih9)
      | (with_reducible apply ih10)
      | (with_reducible apply ih11)
      | (with_reducible apply ih12)
      | (with_reducible apply ih13)
      | (with_reducible apply ih14)
      | (with_reducible apply ih15)
      | (with_reducible apply ih16)
      | (with_reducible apply treelineref04_Put.mono)
      | (with_reducible exact LeO.refl _)
      | (with_reducible exact LeO.none _)
      | (with_reducible refine LeO.ite ?_ ?_)
      | (with_reducible refine LeO.bind ?_ (fun _ => ?_))
      | apply ih0
      | apply ih1
      | apply ih2
      | apply ih3
      | apply ih4
      | apply ih5
      | apply ih6
      | apply ih7
      | apply ih8
      | apply ih9
      | apply ih10
      | apply ih11
      | apply ih12
      | apply ih13
      | apply ih14
      | apply ih15
      | apply ih16
      | exact treelineref04_Put.mono _ _ _ _ _
      | exact LeO.none _
      | refine LeO.ite ?_ ?_
      | refine LeO.bind ?_ (fun _ => ?_)
    · intro y0 y1 y2 y3 y4 y5 y6 y7 y8 y9 y10 y11 y12 y13 y14 y15 y16 y17
      unfold treelineref24_Read.l1
      repeat' first
      | (with_reducible apply ih0)
      | (with_reducible apply ih1)
      | (with_reducible apply ih2)
      | (with_reducible apply ih3)
      | (with_reducible apply ih4)
      | (with_reducible apply ih5)
      | (with_reducible apply ih6)
      | (with_reducible apply ih7)
      | (with_reducible apply ih8)
      | (with_reducible apply ih9)
      | (with_reducible apply ih10)
      | (with_reducible apply ih11)
      | (with_reducible apply ih12)
      | (with_reducible apply ih13)
      | (with_reducible apply ih14)
      | (with_reducible apply ih15)
      | (with_reducible apply ih16)
      | (with_reducible apply treelineref04_Put.mono)
      | (with_reducible exact LeO.refl _)
      | (with_reducible exact LeO.none _)
      | (with_reducible refine LeO.ite ?_ ?_)
      | (with_reducible refine LeO.bind ?_ (fun _ => ?_))
      | apply ih0
      | apply ih1
      | apply ih2
      | apply ih3
      | apply ih4
      | apply ih5
      | apply ih6
      | apply ih7
      | apply ih8
      | apply ih9
      | apply ih10
      | apply ih11
      | apply ih12
      | apply ih13
      | apply ih14
      | apply ih15
      | apply ih16
      | exact treelineref04_Put.mono _ _ _ _ _
      | exact LeO.none _
      | refine LeO.ite ?_ ?_
      | refine LeO.bind ?_ (fun _ => ?_)
    · intro y0 y1 y2 y3 y4 y5 y6 y7 y8 y9 y10 y11 y12 y13 y14 y15 y16 y17 y18
      unfold treelineref24_Read.l2
      repeat' first
      | (with_reducible apply ih0)
      | (with_reducible apply ih1)
      | (with_reducible apply ih2)
      | (with_reducible apply ih3)
      | (with_reducible apply ih4)
      | (with_reducible apply ih5)
      | (with_reducible apply ih6)
      | (with_reducible apply ih7)
      | (with_reducible apply ih8)
      | (with_reducible apply ih9)
      | (with_reducible apply ih10)
      | (with_reducible apply ih11)
      | (with_reducible apply ih12)
      | (with_reducible apply ih13)
      | (with_reducible apply ih14)
      | (with_reducible apply ih15)
      | (with_reducible apply ih16)
      | (with_reducible apply treelineref04_Put.mono)
      | (with_reducible exact LeO.refl _)
      | (with_reducible exact LeO.none _)
      | (with_reducible refine LeO.ite ?_ ?_)
      | (with_reducible refine LeO.bind ?_ (fun _ => ?_))
      | apply ih0
      | apply ih1
      | apply ih2
      | apply ih3
      | apply ih4
      | apply ih5
      | apply ih6
      | apply ih7
      | apply ih8
      | apply ih9
      | apply ih10
      | apply ih11
      | apply ih12
      | apply ih13
      | apply ih14
      | apply ih15
      | apply ih16
      | exact treelineref04_Put.mono _ _ _ _ _
      | exact LeO.none _
      | refine LeO.ite ?_ ?_
      | refine LeO.bind ?_ (fun _ => ?_)
    · intro y0 y1 y2 y3 y4 y5 y6 y7 y8 y9
      unfold treelineref24_Read.l3
      repeat' first
      | (with_reducible apply ih0)
      | (with_reducible apply ih1)
      | (with_reducible apply ih2)
      | (with_reducible apply ih3)
      | (with_reducible apply ih4)
      | (with_reducible apply ih5)
      | (with_reducible apply ih6)
      | (with_reducible apply ih7)
      | (with_reducible apply ih8)
      | (with_reducible apply ih9)
      | (with_reducible apply ih10)
      | (with_reducible apply ih11)
      | (with_reducible apply ih12)
      | (with_reducible apply ih13)
      | (with_reducible apply ih14)
      | (with_reducible apply ih15)
      | (with_reducible apply ih16)
      | (with_reducible apply treelineref04_Put.mono)
      | (with_reducible exact LeO.refl _)
      | (with_reducible exact LeO.none _)
      | (with_reducible refine LeO.ite ?_ ?_)
      | (with_reducible refine LeO.bind ?_ (fun _ => ?_))
      | apply ih0
      | apply ih1
      | apply ih2
      | apply ih3
      | apply ih4
      | apply ih5
      | apply ih6
      | apply ih7
      | apply ih8
      | apply ih9
      | apply ih10
      | apply ih11
      | apply ih12
      | apply ih13
      | apply ih14
      | apply ih15
      | apply ih16
      | exact treelineref04_Put.mono _ _ _ _ _
      | exact LeO.none _
      | refine LeO.ite ?_ ?_
      | refine LeO.bind ?_ (fun _ => ?_)
    · intro y0 y1 y2 y3 y4 y5 y6 y7 y8
      unfold treelineref24_Read.l4
      repeat' first
      | (with_reducible apply ih0)
      | (with_reducible apply ih1)
      | (with_reducible apply ih2)
      | (with_reducible apply ih3)
      | (with_reducible apply ih4)
      | (with_reducible apply ih5)
      | (with_reducible apply ih6)
      | (with_reducible apply ih7)
      | (with_reducible apply ih8)
      | (with_reducible apply ih9)
      | (with_reducible apply ih10)
      | (with_reducible apply ih11)
      | (with_reducible apply ih12)
      | (with_reducible apply ih13)
      | (with_reducible apply ih14)
      | (with_reducible apply ih15)
      | (with_reducible apply ih16)
      | (with_reducible apply treelineref04_Put.mono)
      | (with_reducible exact LeO.refl _)
      | (with_reducible exact LeO.none _)
      | (with_reducible refine LeO.ite ?_ ?_)
      | (with_reducible refine LeO.bind ?_ (fun _ => ?_))
      | apply ih0
      | apply ih1
      | apply ih2
      | apply ih3
      | apply ih4
      | apply ih5
      | apply ih6
      | apply ih7
      | apply ih8
      | apply ih9
      | apply ih10
      | apply ih11
      | apply ih12
      | apply ih13
      | apply ih14
      | apply ih15
      | apply ih16
      | exact treelineref04_Put.mono _ _ _ _ _
      | exact LeO.none _
      | refine LeO.ite ?_ ?_
      | refine LeO.bind ?_ (fun _ => ?_)
    · intro y0 y1 y2 y3 y4 y5 y6 y7 y8 y9
      unfold treelineref24_Read.j5
      repeat' first
      | (with_reducible apply ih0)
      | (with_reducible apply ih1)
      | (with_reducible apply ih2)
      | (with_reducible apply ih3)
      | (with_reducible apply ih4)
      | (with_reducible apply ih5)
      | (with_reducible apply ih6)
      | (with_reducible apply ih7)
      | (with_reducible apply ih8)
      | (with_reducible apply ih9)
      | (with_reducible apply ih10)
      | (with_reducible apply ih11)
      | (with_reducible apply ih12)
      | (with_reducible apply ih13)
      | (with_reducible apply ih14)
      | (with_reducible apply ih15)
      | (with_reducible apply ih16)
      | (with_reducible apply treelineref04_Put.mono)
      | (with_reducible exact LeO.refl _)
      | (with_reducible exact LeO.none _)
      | (with_reducible refine LeO.ite ?_ ?_)
      | (with_reducible refine LeO.bind ?_ (fun _ => ?_))
      | apply ih0
      | apply ih1
      | apply ih2
      | apply ih3
      | apply ih4
      | apply ih5
      | apply ih6
      | apply ih7
      | apply ih8
      | apply ih9
      | apply ih10
      | apply ih11
      | apply ih12
      | apply ih13
      | apply ih14
      | apply ih15
      | apply ih16
      | exact treelineref04_Put.mono _ _ _ _ _
      | exact LeO.none _
      | refine LeO.ite ?_ ?_
      | refine LeO.bind ?_ (fun _ => ?_)
    · intro y0 y1 y2 y3 y4 y5 y6 y7 y8 y9 y10 y11 y12 y13 y14 y15
      unfold treelineref24_Read.j6
      repeat' first
      | (with_reducible apply ih0)
      | (with_reducible apply ih1)
      | (with_reducible apply ih2)
      | (with_reducible apply ih3)
      | (with_reducible apply ih4)
      | (with_reducible apply ih5)
      | (with_reducible apply ih6)
      | (with_reducible apply ih7)
      | (with_reducible apply ih8)
      | (with_reducible apply ih9)
      | (with_reducible apply ih10)
      | (with_reducible apply ih11)
      | (with_reducible apply ih12)
      | (with_reducible apply ih13)
      | (with_reducible apply ih14)
      | (with_reducible apply ih15)
      | (with_reducible apply ih16)
      | (with_reducible apply treelineref04_Put.mono)
      | (with_reducible exact LeO.refl _)
      | (with_reducible exact LeO.none _)
      | (with_reducible refine LeO.ite ?_ ?_)
      | (with_reducible refine LeO.bind ?_ (fun _ => ?_))
      | apply ih0
      | apply ih1
      | apply ih2
      | apply ih3
      | apply ih4
      | apply ih5
      | apply ih6
      | apply ih7
      | apply ih8
      | apply ih9
      | apply ih10
      | apply ih11
      | apply ih12
      | apply ih13
      | apply ih14
      | apply ih15
      | apply ih16
      | exact treelineref04_Put.mono _ _ _ _ _
      | exact LeO.none _
      | refine LeO.ite ?_ ?_
      | refine LeO.bind ?_ (fun _ => ?_)
    · intro y0 y1 y2 y3 y4 y5 y6 y7 y8 y9 y10 y11 y12 y13 y14
      unfold treelineref24_Read.j7
      repeat' first
      | (with_reducible apply ih0)
      | (with_reducible apply ih1)
      | (with_reducible apply ih2)
      | (with_reducible apply ih3)
      | (with_reducible apply ih4)
      | (with_reducible apply ih5)
      | (with_reducible apply ih6)
      | (with_reducible apply ih7)
      | (with_reducible apply ih8)
      | (with_reducible apply ih9)
      | (with_reducible apply ih10)
      | (with_reducible apply ih11)
      | (with_reducible apply ih12)
      | (with_reducible apply ih13)
      | (with_reducible apply ih14)
      | (with_reducible apply ih15)
      | (with_reducible apply ih16)
      | (with_reducible apply treelineref04_Put.mono)
      | (with_reducible exact LeO.refl _)
      | (with_reducible exact LeO.none _)
      | (with_reducible refine LeO.ite ?_ ?_)
      | (with_reducible refine LeO.bind ?_ (fun _ => ?_))
      | apply ih0
      | apply ih1
      | apply ih2
      | apply ih3
      | apply ih4
      | apply ih5
      | apply ih6
      | apply ih7
      | apply ih8
      | apply ih9
      | apply ih10
      | apply ih11
      | apply ih12
      | apply ih13
      | apply ih14
      | apply ih15
      | apply ih16
      | exact treelineref04_Put.mono _ _ _ _ _
      | exact LeO.none _
      | refine LeO.ite ?_ ?_
      | refine LeO.bind ?_ (fun _ => ?_)
    · intro y0 y1 y2 y3 y4 y5 y6 y7 y8 y9 y10 y11 y12 y13 y14
      unfold treelineref24_Read.j8
      repeat' first
      | (with_reducible apply ih0)
      | (with_reducible apply ih1)
      | (with_reducible apply ih2)
      | (with_reducible apply ih3)
      | (with_reducible apply ih4)
      | (with_reducible apply ih5)
      | (with_reducible apply ih6)
      | (with_reducible apply ih7)
      | (with_reducible apply ih8)
      | (with_reducible apply ih9)
      | (with_reducible apply ih10)
      | (with_reducible apply ih11)
      | (with_reducible apply ih12)
      | (with_reducible apply ih13)
      | (with_reducible apply ih14)
      | (with_reducible apply ih15)
      | (with_reducible apply ih16)
      | (with_reducible apply treelineref04_Put.mono)
      | (with_reducible exact LeO.refl _)
      | (with_reducible exact LeO.none _)
      | (with_reducible refine LeO.ite ?_ ?_)
      | (with_reducible refine LeO.bind ?_ (fun _ => ?_))
      | apply ih0
      | apply ih1
      | apply ih2
      | apply ih3
      | apply ih4
      | apply ih5
      | apply ih6
      | apply ih7
      | apply ih8
      | apply ih9
      | apply ih10
      | apply ih11
      | apply ih12
      | apply ih13
      | apply ih14
      | apply ih15
      | apply ih16
      | exact treelineref04_Put.mono _ _ _ _ _
      | exact LeO.none _
      | refine LeO.ite ?_ ?_
      | refine LeO.bind ?_ (fun _ => ?_)
    · intro y0 y1 y2 y3 y4 y5 y6 y7 y8 y9 y10 y11 y12 y13 y14 y15
      unfold treelineref24_Read.j9
      repeat' first
      | (with_reducible apply ih0)
      | (with_reducible apply ih1)
      | (with_reducible apply ih2)
      | (with_reducible apply ih3)
      | (with_reducible apply ih4)
      | (with_reducible apply ih5)
      | (with_reducible apply ih6)
      | (with_reducible apply ih7)
      | (with_reducible apply ih8)
      | (with_reducible apply ih9)
      | (with_reducible apply ih10)
      | (with_reducible apply ih11)
      | (with_reducible apply ih12)
      | (with_reducible apply ih13)
      | (with_reducible apply ih14)
      | (with_reducible apply ih15)
      | (with_reducible apply ih16)
      | (with_reducible apply treelineref04_Put.mono)
      | (with_reducible exact LeO.refl _)
      | (with_reducible exact LeO.none _)
      | (with_reducible refine LeO.ite ?_ ?_)
      | (with_reducible refine LeO.bind ?_ (fun _ => ?_))
      | apply ih0
      | apply ih1
      | apply ih2
      | apply ih3
      | apply ih4
      | apply ih5
      | apply ih6
      | apply ih7
      | apply ih8
      | apply ih9
      | apply ih10
      | apply ih11
      | apply ih12
      | apply ih13
      | apply ih14
      | apply ih15
      | apply ih16
      | exact treelineref04_Put.mono _ _ _ _ _
      | exact LeO.none _
      | refine LeO.ite ?_ ?_
      | refine LeO.bind ?_ (fun _ => ?_)
    · intro y0 y1 y2 y3 y4 y5 y6 y7 y8 y9 y10 y11 y12 y13 y14
      unfold treelineref24_Read.j10
      repeat' first
      | (with_reducible apply ih0)
      | (with_reducible apply ih1)
      | (with_reducible apply ih2)
      | (with_reducible apply ih3)
      | (with_reducible apply ih4)
      | (with_reducible apply ih5)
      | (with_reducible apply ih6)
      | (with_reducible apply ih7)
      | (with_reducible apply ih8)
      | (with_reducible apply ih9)
      | (with_reducible apply ih10)
      | (with_reducible apply ih11)
      | (with_reducible apply ih12)
      | (with_reducible apply ih13)
      | (with_reducible apply ih14)
      | (with_reducible apply ih15)
      | (with_reducible apply ih16)
      | (with_reducible apply treelineref04_Put.mono)
      | (with_reducible exact LeO.refl _)
      | (with_reducible exact LeO.none _)
      | (with_reducible refine LeO.ite ?_ ?_)
      | (with_reducible refine LeO.bind ?_ (fun _ => ?_))
      | apply ih0
      | apply ih1
      | apply ih2
      | apply ih3
      | apply ih4
      | apply ih5
      | apply ih6
      | apply ih7
      | apply ih8
      | apply ih9
      | apply ih10
      | apply ih11
      | apply ih12
      | apply ih13
      | apply ih14
      | apply ih15
      | apply ih16
      | exact treelineref04_Put.mono _ _ _ _ _
      | exact LeO.none _
      | refine LeO.ite ?_ ?_
      | refine LeO.bind ?_ (fun _ => ?_)
    · intro y0 y1 y2 y3 y4 y5 y6 y7 y8 y9 y10 y11 y12 y13 y14 y15
      unfold treelineref24_Read.j11
      repeat' first
      | (with_reducible apply ih0)
      | (with_reducible apply ih1)
      | (with_reducible apply ih2)
      | (with_reducible apply ih3)
      | (with_reducible apply ih4)
      | (with_reducible apply ih5)
      | (with_reducible apply ih6)
      | (with_reducible apply ih7)
      | (with_reducible apply ih8)
      | (with_reducible apply ih9)
      | (with_reducible apply ih10)
      | (with_reducible apply ih11)
      | (with_reducible apply ih12)
      | (with_reducible apply ih13)
      | (with_reducible apply ih14)
      | (with_reducible apply ih15)
      | (with_reducible apply ih16)
      | (with_reducible apply treelineref04_Put.mono)
      | (with_reducible exact LeO.refl _)
      | (with_reducible exact LeO.none _)
      | (with_reducible refine LeO.ite ?_ ?_)
      | (with_reducible refine LeO.bind ?_ (fun _ => ?_))
      | apply ih0
      | apply ih1
      | apply ih2
      | apply ih3
      | apply ih4
      | apply ih5
      | apply ih6
      | apply ih7
      | apply ih8
      | apply ih9
      | apply ih10
      | apply ih11
      | apply ih12
      | apply ih13
      | apply ih14
      | apply ih15
      | apply ih16
      | exact treelineref04_Put.mono _ _ _ _ _
      | exact LeO.none _
      | refine LeO.ite ?_ ?_
      | refine LeO.bind ?_ (fun _ => ?_)
    · intro y0 y1 y2 y3 y4 y5 y6 y7 y8 y9 y10 y11 y12 y13 y14
      unfold treelineref24_Read.j12
      repeat' first
      | (with_reducible apply ih0)
      | (with_reducible apply ih1)
      | (with_reducible apply ih2)
      | (with_reducible apply ih3)
      | (with_reducible apply ih4)
      | (with_reducible apply ih5)
      | (with_reducible apply ih6)
      | (with_reducible apply ih7)
      | (with_reducible apply ih8)
      | (with_reducible apply ih9)
      | (with_reducible apply ih10)
      | (with_reducible apply ih11)
      | (with_reducible apply ih12)
      | (with_reducible apply ih13)
      | (with_reducible apply ih14)
      | (with_reducible apply ih15)
      | (with_reducible apply ih16)
      | (with_reducible apply treelineref04_Put.mono)
      | (with_reducible exact LeO.refl _)
      | (with_reducible exact LeO.none _)
      | (with_reducible refine LeO.ite ?_ ?_)
      | (with_reducible refine LeO.bind ?_ (fun _ => ?_))
      | apply ih0
      | apply ih1
      | apply ih2
      | apply ih3
      | apply ih4
      | apply ih5
      | apply ih6
      | apply ih7
      | apply ih8
      | apply ih9
      | apply ih10
      | apply ih11
      | apply ih12
      | apply ih13
      | apply ih14
      | apply ih15
      | apply ih16
      | exact treelineref04_Put.mono _ _ _ _ _
      | exact LeO.none _
      | refine LeO.ite ?_ ?_
      | refine LeO.bind ?_ (fun _ => ?_)
    · intro y0 y1 y2 y3 y4 y5 y6 y7 y8 y9 y10 y11 y12 y13 y14
      unfold treelineref24_Read.j14
      repeat' first
      | (with_reducible apply ih0)
      | (with_reducible apply ih1)
      | (with_reducible apply ih2)
      | (with_reducible apply ih3)
      | (with_reducible apply ih4)
      | (with_reducible apply ih5)
      | (with_reducible apply ih6)
      | (with_reducible apply ih7)
      | (with_reducible apply ih8)
      | (with_reducible apply ih9)
      | (with_reducible apply ih10)
      | (with_reducible apply ih11)
      | (with_reducible apply ih12)
      | (with_reducible apply ih13)
      | (with_reducible apply ih14)
      | (with_reducible apply ih15)
      | (with_reducible apply ih16)
      | (with_reducible apply treelineref04_Put.mono)
      | (with_reducible exact LeO.refl _)
      | (with_reducible exact LeO.none _)
      | (with_reducible refine LeO.ite ?_ ?_)
      | (with_reducible refine LeO.bind ?_ (fun _ => ?_))
      | apply ih0
      | apply ih1
      | apply ih2
      | apply ih3
      | apply ih4
      | apply ih5
      | apply ih6
      | apply ih7
      | apply ih8
      | apply ih9
      | apply ih10
      | apply ih11
      | apply ih12
      | apply ih13
      | apply ih14
      | apply ih15
      | apply ih16
      | exact treelineref04_Put.mono _ _ _ _ _
      | exact LeO.none _
      | refine LeO.ite ?_ ?_
      | refine LeO.bind ?_ (fun _ => ?_)
    · intro y0 y1 y2 y3 y4 y5 y6 y7 y8 y9 y10 y11 y12 y13 y14
      unfold treelineref24_Read.j15
      repeat' first
      | (with_reducible apply ih0)
      | (with_reducible apply ih1)
      | (with_reducible apply ih2)
      | (with_reducible apply ih3)
      | (with_reducible apply ih4)
      | (with_reducible apply ih5)
      | (with_reducible apply ih6)
      | (with_reducible apply ih7)
      | (with_reducible apply ih8)
      | (with_reducible apply ih9)
      | (with_reducible apply ih10)
      | (with_reducible apply ih11)
      | (with_reducible apply ih12)
      | (with_reducible apply ih13)
      | (with_reducible apply ih14)
      | (with_reducible apply ih15)
      | (with_reducible apply ih16)
      | (with_reducible apply treelineref04_Put.mono)
      | (with_reducible exact LeO.refl _)
      | (with_reducible exact LeO.none _)
      | (with_reducible refine LeO.ite ?_ ?_)
      | (with_reducible refine LeO.bind ?_ (fun _ => ?_))
      | apply ih0
      | apply ih1
      | apply ih2
      | apply ih3
      | apply ih4
      | apply ih5
      | apply ih6
      | apply ih7
      | apply ih8
      | apply ih9
      | apply ih10
      | apply ih11
      | apply ih12
      | apply ih13
      | apply ih14
      | apply ih15
      | apply ih16
      | exact treelineref04_Put.mono _ _ _ _ _
      | exact LeO.none _
      | refine LeO.ite ?_ ?_
      | refine LeO.bind ?_ (fun _ => ?_)
    · intro y0 y1 y2 y3 y4 y5 y6 y7 y8 y9 y10 y11 y12 y13 y14 y15 y16
      unfold treelineref24_Read.l6
      repeat' first
      | (with_reducible apply ih0)
      | (with_reducible apply ih1)
      | (with_reducible apply ih2)
      | (with_reducible apply ih3)
      | (with_reducible apply ih4)
      | (with_reducible apply ih5)
      | (with_reducible apply ih6)
      | (with_reducible apply ih7)
      | (with_reducible apply ih8)
      | (with_reducible apply ih9)
      | (with_reducible apply ih10)
      | (with_reducible apply ih11)
      | (with_reducible apply ih12)
      | (with_reducible apply ih13)
      | (with_reducible apply ih14)
      | (with_reducible apply ih15)
      | (with_reducible apply ih16)
      | (with_reducible apply treelineref04_Put.mono)
      | (with_reducible exact LeO.refl _)
      | (with_reducible exact LeO.none _)
      | (with_reducible refine LeO.ite ?_ ?_)
      | (with_reducible refine LeO.bind ?_ (fun _ => ?_))
      | apply ih0
      | apply ih1
      | apply ih2
      | apply ih3
      | apply ih4
      | apply ih5
      | apply ih6
      | apply ih7
      | apply ih8
      | apply ih9
      | apply ih10
      | apply ih11
      | apply ih12
      | apply ih13
      | apply ih14
      | apply ih15
      | apply ih16
      | exact treelineref04_Put.mono _ _ _ _ _
      | exact LeO.none _
      | refine LeO.ite ?_ ?_
      | refine LeO.bind ?_ (fun _ => ?_)
    · intro y0 y1 y2 y3 y4 y5 y6 y7 y8 y9 y10 y11 y12 y13 y14 y15 y16 y17
      unfold treelineref24_Read.l5
      repeat' first
      | (with_reducible apply ih0)
      | (with_reducible apply ih1)
      | (with_reducible apply ih2)
      | (with_reducible apply ih3)
      | (with_reducible apply ih4)
      | (with_reducible apply ih5)
      | (with_reducible apply ih6)
      | (with_reducible apply ih7)
      | (with_reducible apply ih8)
      | (with_reducible apply ih9)
      | (with_reducible apply ih10)
      | (with_reducible apply ih11)
      | (with_reducible apply ih12)
      | (with_reducible apply ih13)
      | (with_reducible apply ih14)
      | (with_reducible apply ih15)
      | (with_reducible apply ih16)
      | (with_reducible apply treelineref04_Put.mono)
      | (with_reducible exact LeO.refl _)
      | (with_reducible exact LeO.none _)
      | (with_reducible refine LeO.ite ?_ ?_)
      | (with_reducible refine LeO.bind ?_ (fun _ => ?_))
      | apply ih0
      | apply ih1
      | apply ih2
      | apply ih3
      | apply ih4
      | apply ih5
      | apply ih6
      | apply ih7
      | apply ih8
      | apply ih9
      | apply ih10
      | apply ih11
      | apply ih12
      | apply ih13
      | apply ih14
      | apply ih15
      | apply ih16
      | exact treelineref04_Put.mono _ _ _ _ _
      | exact LeO.none _
      | refine LeO.ite ?_ ?_
      | refine LeO.bind ?_ (fun _ => ?_)
theorem treelineref24_Read.mono : ∀ a0 k, LeO (treelineref24_Read.f k a0) (treelineref24_Read.f (k + 1) a0) := by
  intro a0 k
  obtain ⟨ih0, ih1, ih2, ih3, ih4, ih5, ih6, ih7, ih8, ih9, ih10, ih11, ih12, ih13, ih14, ih15, ih16⟩ := treelineref24_Read.mono_l k
  unfold treelineref24_Read.f
  repeat' first
      | (with_reducible apply ih0)
      | (with_reducible apply ih1)
      | (with_reducible apply ih2)
      | (with_reducible apply ih3)
      | (with_reducible apply ih4)
      | (with_reducible apply ih5)
      | (with_reducible apply ih6)
      | (with_reducible apply ih7)
      | (with_reducible apply ih8)
      | (with_reducible apply ih9)
      | (with_reducible apply ih10)
      | (with_reducible apply ih11)
      | (with_reducible apply ih12)
      | (with_reducible apply ih13)
      | (with_reducible apply ih14)
      | (with_reducible apply ih15)
      | (with_reducible apply ih16)
      | (with_reducible apply treelineref04_Put.mono)
      | (with_reducible exact LeO.refl _)
      | (with_reducible exact LeO.none _)
      | (with_reducible refine LeO.ite ?_ ?_)
      | (with_reducible refine LeO.bind ?_ (fun _ => ?_))
      | apply ih0
      | apply ih1
      | apply ih2
      | apply ih3
      | apply ih4
      | apply ih5
      | apply ih6
      | apply ih7
      | apply ih8
      | apply ih9
      | apply ih10
      | apply ih11
      | apply ih12
      | apply ih13
      | apply ih14
      | apply ih15
      | apply ih16
      | exact treelineref04_Put.mono _ _ _ _ _
      | exact LeO.none _
      | refine LeO.ite ?_ ?_
      | refine LeO.bind ?_ (fun _ => ?_)
def treelineref24_Read.T13 : Bool × List (List Nat × List Nat) := (true, [([], []), ([0], [0]), ([1], [1]), ([2], [2]), ([3], [3]), ([], []), ([5], [5]), ([4, 6], [4, 6]), ([7, 6, 0, 1, 2, 3, 4, 5, 6, 7], [7])])
def treelineref24_Read.B13 : List Nat := [0, 1, 3, 7, 15, 0, 32, 127, 255]
theorem treelineref24_Read.tab13 : rtab .any (opsOf Tryd.f10 13) = treelineref24_Read.T13 := by kernel_rfl
theorem treelineref24_Read.bits13 : waitsOk treelineref24_Read.T13.2 treelineref24_Read.B13 = true := by kernel_rfl
def treelineref24_Read.T33 : Bool × List (List Nat × List Nat) := (true, [([], []), ([0], [0]), ([], []), ([2], [2]), ([3], [3]), ([], []), ([], []), ([6], [6]), ([5, 7], [5, 7]), ([4, 8], [4, 8]), ([9], [9]), ([1, 10, 8], [1, 10]), ([0, 1, 2, 3, 4, 5, 6, 7, 8, 9, 10, 11], []), ([12, 11, 11, 0, 1, 2, 3, 4, 5, 6, 7, 8, 9, 10, 11], [11, 12])])
def treelineref24_Read.B33 : List Nat := [0, 1, 0, 4, 12, 0, 0, 64, 224, 508, 1020, 2047, 4095, 8191]
theorem treelineref24_Read.tab33 : rtab .any (opsOf Tryd.f10 33) = treelineref24_Read.T33 := by kernel_rfl
theorem treelineref24_Read.bits33 : waitsOk treelineref24_Read.T33.2 treelineref24_Read.B33 = true := by kernel_rfl
def treelineref24_Read.T52 : Bool × List (List Nat × List Nat) := (true, [([], []), ([0], [0]), ([], []), ([2], [2]), ([3], [3]), ([4], [4]), ([1, 5, 3], [1, 5]), ([0, 1, 2, 3, 4, 5, 6], []), ([7, 6, 6, 0, 1, 2, 3, 4, 5, 6], [6, 7])])
def treelineref24_Read.B52 : List Nat := [0, 1, 0, 4, 12, 28, 63, 127, 255]
theorem treelineref24_Read.tab52 : rtab .any (opsOf Tryd.f10 52) = treelineref24_Read.T52 := by kernel_rfl
theorem treelineref24_Read.bits52 : waitsOk treelineref24_Read.T52.2 treelineref24_Read.B52 = true := by kernel_rfl
def treelineref24_Read.T66 : Bool × List (List Nat × List Nat) := (true, [([], []), ([0], [0]), ([], []), ([2], [2]), ([3], [3]), ([4], [4]), ([1, 5, 3], [1, 5]), ([0, 1, 2, 3, 4, 5, 6], []), ([7, 6, 6, 0, 1, 2, 3, 4, 5, 6], [6, 7])])
def treelineref24_Read.B66 : List Nat := [0, 1, 0, 4, 12, 28, 63, 127, 255]
theorem treelineref24_Read.tab66 : rtab .any (opsOf Tryd.f10 66) = treelineref24_Read.T66 := by kernel_rfl
theorem treelineref24_Read.bits66 : waitsOk treelineref24_Read.T66.2 treelineref24_Read.B66 = true := by kernel_rfl
/-- A goal, and what is left of it. -/
structure Hole (A : Prop) : Prop where
  out : A
structure Part (T : Prop) where
  A : Prop
  p : Hole A → T
set_option maxHeartbeats 8000000 in
set_option maxRecDepth 100000 in
noncomputable def treelineref24_Read.calls.p1 : Part (∀ (k : Nat) (A0 : Option Addr) (c0 : Nat) (l0 : List Int) (r1 : Int) (r2 : List (S51)) (r3 : List (List Int)) (r4 : List (S66)) (r5 : List (S39)) (w : World) (hr0 : Kd.C (Kd.int .u8) w A0 l0.length l0) (hc0 : l0.length ≤ c0) (h : treelineref24_Read.f k l0 = some (r1, r2, r3, r4, r5)), Calls Tryd.prog 10 #[.slice A0 l0.length c0] w fun e w' => ∃ v1_ v2_ v3_ v4_ : Value, e = .returned (.tuple #[.agg #[.int .i64 r1, v1_, v2_, v3_], v4_]) ∧ Kd.S k51 51 w' w.heap.size (fun _ => True) v1_ r2 ∧ Kd.S (Kd.slice 3 (Kd.int .i64)) 64 w' w.heap.size (fun _ => True) v2_ r3 ∧ Kd.R k66 66 w' w.heap.size (fun _ => True) v3_ r4 ∧ Kd.S k39 39 w' w.heap.size (fun _ => True) v4_ r5 ∧ Below w.heap.size w w') := ⟨_, fun hPart_ => by
 intro k A0 c0 l0 r1 r2 r3 r4 r5 w hr0 hc0 h
 have hu28 := Tryd.underlying28
 have hu51 := Tryd.underlying51
 have hu63 := Tryd.underlying63
 have hu66 := Tryd.underlying66
 have hu39 := Tryd.underlying39
 have hu43 := Tryd.underlying43
 have HR0 := Aside0.mk hr0
 have HC0 := Aside0.mk hc0
 clear hr0 hc0
 have HB := Aside0.mk (Below.refl w.heap.size w)
 have H : ((treelinelaw24_ScriptFront.f l0).bind fun bt353 => ((treelineref24_At_by.f bt353.1 bt353.2 5).bind fun bt357 => ((treelineref24_At_by.f bt353.1 bt357.2 4).bind fun bt359 => (treelineref24_Read.l0 k l0 (wrap64 (1 + bt359.1)) 0 bt353.1 bt359.2 (wrap64 (1 + bt357.1)) ([] : List (S51)) ([] : List (List Int)))))) = some (r1, r2, r3, r4, r5) := h
 clear h
 replace H := Option.bind_eq_some_iff.mp H
 obtain ⟨⟨t353, t354⟩, A20, H⟩ := H
 (try dsimp only at H)
 have A2 := Aside0.mk A20
 clear A20
 replace H := Option.bind_eq_some_iff.mp H
 obtain ⟨⟨t357, t358⟩, A30, H⟩ := H
 (try dsimp only at H)
 have A3 := Aside0.mk A30
 clear A30
 replace H := Option.bind_eq_some_iff.mp H
 obtain ⟨⟨t359, t360⟩, A40, H⟩ := H
 (try dsimp only at H)
 have A4 := Aside0.mk A40
 clear A40
 have H' := Aside0.mk H
 clear H
 go_enter Tryd.func10, Tryd.ntmps10
 go_wp2_with (first | ((with_reducible refine gate_dst (N := 2) rfl ?_); (try (refine gate_guard (by rfl) ?_; dsimp only)); refine box_event ?hg (N := 2) ?hd (cs := #[.int .i64 0, .slice none 0 0, .slice none 0 0, .slice none 0 0]) (t := 28) ?hr ?_; (case hd => rfl); (case hg => rfl); (case hr => first | (go_simp; done) | (go_simp; rfl)); intro gb352 hg w5 hbox hb; have BK352 := Aside0.mk (hbox); have GW352 := Aside0.mk ((by rw [hg]; exact (below_size bB) : w.heap.size ≤ gb352)); have GE352 := Aside0.mk ((by rw [hg]; exact (below_size bB) : w.heap.size ≤ gb352)); replace HB := Aside0.mk (below_step bB hb); clear hb hbox hg) | ((with_reducible refine gate_dst (N := 28) rfl ?_); refine box_event ?hg (N := 28) ?hd (cs := #[.slice A0 l0.length c0, .int .i64 0]) (t := 59) ?hr ?_; (case hd => rfl); (case hg => rfl); (case hr => first | (go_simp; done) | (go_simp; rfl)); intro g355 hg w6 hbox hb2; have hge : w.heap.size ≤ g355 := (by rw [hg]; exact below_size bB); have hi := treelinelaw24_ScriptFront.is (w0 := w) (W := w6) (g := g355) A2.out ⟨_, _, hbox, hge, HR0.out⟩; have hb := below_step bB hb2; clear hbox hge hg; replace HB := Aside0.mk (hb); have HI355 := Aside0.mk (hi); have NB355_352 := Aside0.mk (IsS59.ne_blk hi (blk_below (g := gb352) (o := .cells #[.int .i64 0, .slice none 0 0, .slice none 0 0, .slice none 0 0] 28 (0, 0)) (bw BK352.out) hb2) (by decide)); have NB352_355 := Aside0.mk (Ne.symm (IsS59.ne_blk hi (blk_below (g := gb352) (o := .cells #[.int .i64 0, .slice none 0 0, .slice none 0 0, .slice none 0 0] 28 (0, 0)) (bw BK352.out) hb2) (by decide))); replace BK352 := Aside0.mk (blk_below (g := gb352) (o := .cells #[.int .i64 0, .slice none 0 0, .slice none 0 0, .slice none 0 0] 28 (0, 0)) (bw BK352.out) hb2); (try clear hb); (try clear hb2); (try clear hk); (try clear hi)) | ((with_reducible refine gate_dst (N := 5) rfl ?_); (try (refine gate_guard (by rfl) ?_; dsimp only)); refine box_event ?hg (N := 5) ?hd (cs := #[.int .i64 0, .slice none 0 0, .slice none 0 0, .slice none 0 0]) (t := 28) ?hr ?_; (case hd => rfl); (case hg => rfl); (case hr => first | (go_simp; done) | (go_simp; rfl)); intro gb356 hg w7 hbox hb; have BK356 := Aside0.mk (hbox); have GW356 := Aside0.mk ((by rw [hg]; exact (below_size bB) : w.heap.size ≤ gb356)); have GE356 := Aside0.mk ((by rw [hg]; exact (below_size bB) : w.heap.size ≤ gb356)); replace HB := Aside0.mk (below_step bB hb); have NB352_356 := Aside0.mk (nbL (bw BK352.out) hg : gb352 ≠ gb356); have NB356_352 := Aside0.mk (nbL (bw BK352.out) hg : gb352 ≠ gb356).symm; replace BK352 := Aside0.mk (blk_below (g := gb352) (o := .cells #[.int .i64 0, .slice none 0 0, .slice none 0 0, .slice none 0 0] 28 (0, 0)) (bw BK352.out) hb); have NB355_356 := Aside0.mk ((by rw [hg]; exact Nat.ne_of_lt (IsS59.lt (show IsS59 w _ g355 t353 t354 from by exact bI HI355.out)) : g355 ≠ gb356)); have NB356_355 := Aside0.mk ((by rw [hg]; exact Nat.ne_of_gt (IsS59.lt (show IsS59 w _ g355 t353 t354 from by exact bI HI355.out)) : gb356 ≠ g355)); replace HI355 := Aside0.mk (IsS59.below (bI HI355.out) hb); clear hb hbox hg; have hnb8 := NB356_352.out; have hnc8 := NB352_356.out; have hnb9 := NB356_355.out; have hnc9 := NB355_356.out; obtain ⟨hcz10_0, hcz10_1, hcz10_2, hcz10_3⟩ := cZ4 BK356.out; obtain ⟨hfz10_0, hfz10_1, hfz10_2, hfz10_3⟩ := fZ4 BK356.out) | ((with_reducible refine gate_callee (f := 18) rfl ?_); refine gL (some 31) Tryd.func18 #[.pointer (some ⟨g355, 0, none⟩), .int .i64 5] ?_; (with_reducible refine (treelineref24_At_by.calls g355 t353 t354 5 t357 t358 w _ ?side1 ?side2 A3.out).mono ?_); (case side1 => exact bI HI355.out); (case side2 => exact bB); rintro e w11 ⟨rfl, hi, hb, hk⟩; refine ⟨_, rfl, ?_⟩; replace BK352 := Aside0.mk (KeepBut.blk hk (g' := gb352) (o := .cells #[.int .i64 0, .slice none 0 0, .slice none 0 0, .slice none 0 0] 28 (0, 0)) (bw BK352.out) NB352_355.out (by simp)); replace BK356 := Aside0.mk (KeepBut.blk hk (g' := gb356) (o := .cells #[.int .i64 0, .slice none 0 0, .slice none 0 0, .slice none 0 0] 28 (0, 0)) (by exact put4 (bw BK356.out)) NB356_355.out (by simp)); replace HB := Aside0.mk (hb); replace HI355 := Aside0.mk (hi); (try clear hb); (try clear hb2); (try clear hk); (try clear hi); obtain ⟨hcz12_0, hcz12_1, hcz12_2, hcz12_3⟩ := cZ4 BK356.out; obtain ⟨hfz12_0, hfz12_1, hfz12_2, hfz12_3⟩ := fZ4 BK356.out) | ((with_reducible refine gate_callee (f := 18) rfl ?_); refine gL (some 35) Tryd.func18 #[.pointer (some ⟨g355, 0, none⟩), .int .i64 4] ?_; (with_reducible refine (treelineref24_At_by.calls g355 t353 t358 4 t359 t360 w _ ?side1 ?side2 A4.out).mono ?_); (case side1 => exact bI HI355.out); (case side2 => exact bB); rintro e w13 ⟨rfl, hi, hb, hk⟩; refine ⟨_, rfl, ?_⟩; replace BK352 := Aside0.mk (KeepBut.blk hk (g' := gb352) (o := .cells #[.int .i64 0, .slice none 0 0, .slice none 0 0, .slice none 0 0] 28 (0, 0)) (bw BK352.out) NB352_355.out (by simp)); replace BK356 := Aside0.mk (KeepBut.blk hk (g' := gb356) (o := .cells #[.int .i64 (wrap64 (1 + t357)), .slice none 0 0, .slice none 0 0, .slice none 0 0] 28 (0, 0)) (by refine bW ?_; refine blk_put (cs := #[.int .i64 0, .slice none 0 0, .slice none 0 0, .slice none 0 0]) ?_ 0 _ rfl; exact bw BK356.out) NB356_355.out (by simp)); replace HB := Aside0.mk (hb); replace HI355 := Aside0.mk (hi); (try clear hb); (try clear hb2); (try clear hk); (try clear hi)) | (go_at_call 6; (with_reducible refine (treelinelaw24_ScriptFront.calls _ _ l0 t353 t354 w _ ?side1 ?side2 ?side3 A2.out).mono ?_); (case side1 => exact bB); (case side2 => exact HR0.out); (case side3 => exact HC0.out); rintro e w6 ⟨g355, rfl, hi, hb, hb2⟩; replace HB := Aside0.mk (hb); have HI355 := Aside0.mk (hi); have NB355_352 := Aside0.mk (IsS59.ne_blk hi (blk_below (g := gb352) (o := .cells #[.int .i64 0, .slice none 0 0, .slice none 0 0, .slice none 0 0] 28 (0, 0)) (bw BK352.out) hb2) (by decide)); have NB352_355 := Aside0.mk (Ne.symm (IsS59.ne_blk hi (blk_below (g := gb352) (o := .cells #[.int .i64 0, .slice none 0 0, .slice none 0 0, .slice none 0 0] 28 (0, 0)) (bw BK352.out) hb2) (by decide))); replace BK352 := Aside0.mk (blk_below (g := gb352) (o := .cells #[.int .i64 0, .slice none 0 0, .slice none 0 0, .slice none 0 0] 28 (0, 0)) (bw BK352.out) hb2); (try clear hb); (try clear hb2); (try clear hk); (try clear hi)) | (go_at_call 18; (with_reducible refine (treelineref24_At_by.calls g355 t353 t354 5 t357 t358 w _ ?side1 ?side2 A3.out).mono ?_); (case side1 => exact bI HI355.out); (case side2 => exact bB); rintro e w11 ⟨rfl, hi, hb, hk⟩; replace BK352 := Aside0.mk (KeepBut.blk hk (g' := gb352) (o := .cells #[.int .i64 0, .slice none 0 0, .slice none 0 0, .slice none 0 0] 28 (0, 0)) (bw BK352.out) NB352_355.out (by simp)); replace BK356 := Aside0.mk (KeepBut.blk hk (g' := gb356) (o := .cells #[.int .i64 0, .slice none 0 0, .slice none 0 0, .slice none 0 0] 28 (0, 0)) (by exact put4 (bw BK356.out)) NB356_355.out (by simp)); replace HB := Aside0.mk (hb); replace HI355 := Aside0.mk (hi); (try clear hb); (try clear hb2); (try clear hk); (try clear hi); obtain ⟨hcz12_0, hcz12_1, hcz12_2, hcz12_3⟩ := cZ4 BK356.out; obtain ⟨hfz12_0, hfz12_1, hfz12_2, hfz12_3⟩ := fZ4 BK356.out) | (go_at_call 18; (with_reducible refine (treelineref24_At_by.calls g355 t353 t358 4 t359 t360 w _ ?side1 ?side2 A4.out).mono ?_); (case side1 => exact bI HI355.out); (case side2 => exact bB); rintro e w13 ⟨rfl, hi, hb, hk⟩; replace BK352 := Aside0.mk (KeepBut.blk hk (g' := gb352) (o := .cells #[.int .i64 0, .slice none 0 0, .slice none 0 0, .slice none 0 0] 28 (0, 0)) (bw BK352.out) NB352_355.out (by simp)); replace BK356 := Aside0.mk (KeepBut.blk hk (g' := gb356) (o := .cells #[.int .i64 (wrap64 (1 + t357)), .slice none 0 0, .slice none 0 0, .slice none 0 0] 28 (0, 0)) (by refine bW ?_; refine blk_put (cs := #[.int .i64 0, .slice none 0 0, .slice none 0 0, .slice none 0 0]) ?_ 0 _ rfl; exact bw BK356.out) NB356_355.out (by simp)); replace HB := Aside0.mk (hb); replace HI355 := Aside0.mk (hi); (try clear hb); (try clear hb2); (try clear hk); (try clear hi)))
 go_loopg [7] k (fun kq v7 w' => ∃ (x7_1 : Int) (x356001_1 : Int) (x357001_1 : List (S51)) (x357002_1 : List (List Int)) (u357001 : Value) (u357002 : Value), v7 = .int .i64 x7_1 ∧ Aside0 (treelineref24_Read.l0 kq l0 (wrap64 (1 + t359)) x7_1 t353 x356001_1 (wrap64 (1 + t357)) x357001_1 x357002_1 = some (r1, r2, r3, r4, r5)) ∧ Aside0 (kq ≤ k) ∧ Aside0 (Kd.S k51 51 w' w.heap.size (fun _ => True) u357001 x357001_1) ∧ Aside0 (Kd.S (Kd.slice 3 (Kd.int .i64)) 64 w' w.heap.size (fun _ => True) u357002 x357002_1) ∧ Aside0 (w'.heap[gb352]? = some (.cells #[.int .i64 0, (.slice none 0 0), (.slice none 0 0), (.slice none 0 0)] 28 (0, 0))) ∧ Aside0 (w'.heap[gb356]? = some (.cells #[.int .i64 (wrap64 (1 + t357)), u357001, u357002, (.slice none 0 0)] 28 (0, 0))) ∧ Aside0 (IsS59 w w' g355 t353 x356001_1) ∧ Aside0 (Below w.heap.size w w'))
 case atStart => exact ⟨(0), (t360), (([] : List (S51))), (([] : List (List Int))), (.slice none 0 0), (.slice none 0 0), (by first | rfl | (simp; done) | (simp [*]; done)), H', ⟨Nat.le_refl _⟩, ⟨by first | exact Kd.S_nil _ _ _ _ _ | exact Kd.N_nil _ _ _ _ _ | exact Kd.V_nil _ _ _ _ _ | exact Kd.Q_nil _ _ _ _ _ | exact Kd.R_nil _ _ _ _ _⟩, ⟨by first | exact Kd.S_nil _ _ _ _ _ | exact Kd.N_nil _ _ _ _ _ | exact Kd.V_nil _ _ _ _ _ | exact Kd.Q_nil _ _ _ _ _ | exact Kd.R_nil _ _ _ _ _⟩, ⟨bw BK352.out⟩, ⟨bw BK356.out⟩, ⟨bI HI355.out⟩, ⟨bB⟩⟩
 clear H'
 try clear p2
 try clear p6
 try clear hcz10_0
 try clear hcz10_1
 try clear hcz10_2
 try clear hcz10_3
 try clear hcz12_0
 try clear hcz12_1
 try clear hcz12_2
 try clear hcz12_3
 try clear hfz10_0
 try clear hfz10_1
 try clear hfz10_2
 try clear hfz10_3
 try clear hfz12_0
 try clear hfz12_1
 try clear hfz12_2
 try clear hfz12_3
 obtain ⟨x7_1, x356001_1, x357001_1, x357002_1, u357001, u357002, rfl, HA, HK1, HO_357001, HO_357002, BK352, BK356, HI355, HB⟩ := hrel
 cases gk with
 | zero => exact absurd HA.out (by simp [treelineref24_Read.l0])
 | succ k1 => ?_
 have H := HA.out
 clear HA
 simp only [treelineref24_Read.l0] at H
 by_cases c14 : x7_1 < (wrap64 (1 + t359))
 ·rw [if_pos c14] at H
  have c14b0 : decide (x7_1 < (wrap64 (1 + t359))) = true := decide_eq_true c14
  clear c14
  replace H := Option.bind_eq_some_iff.mp H
  obtain ⟨⟨t362, t363⟩, A150, H⟩ := H
  (try dsimp only at H)
  have A15 := Aside0.mk A150
  clear A150
  replace H := Option.bind_eq_some_iff.mp H
  obtain ⟨⟨t364, t365⟩, A160, H⟩ := H
  (try dsimp only at H)
  have A16 := Aside0.mk A160
  clear A160
  replace H := Option.bind_eq_some_iff.mp H
  obtain ⟨⟨t366, t367⟩, A170, H⟩ := H
  (try dsimp only at H)
  have A17 := Aside0.mk A170
  clear A170
  replace H := Option.bind_eq_some_iff.mp H
  obtain ⟨⟨t368, t369⟩, A180, H⟩ := H
  (try dsimp only at H)
  have A18 := Aside0.mk A180
  clear A180
  replace H := Option.bind_eq_some_iff.mp H
  obtain ⟨⟨t370, t371⟩, A190, H⟩ := H
  (try dsimp only at H)
  have A19 := Aside0.mk A190
  clear A190
  replace H := Option.bind_eq_some_iff.mp H
  obtain ⟨⟨t372, t373⟩, A200, H⟩ := H
  (try dsimp only at H)
  have A20 := Aside0.mk A200
  clear A200
  obtain ⟨ji21, hji21⟩ : ∃ j_ : Int, (mx (wrap64 ((wrap64 ((wrap64 (Int.tdiv (wrap64 ((wrap64 ((wrap64 ((wrap64 (2 * (wrap64 ((wrap64 (1 + t364)) + 1)))) + 2)) + t370)) + 1)) 2)) + 1)) + t372)) 4) = j_ := ⟨_, rfl⟩
  replace H : ((treelineref24_At_by.f t353 t373 3).bind fun bt374 => (treelineref24_Read.l1 k1 l0 (wrap64 (1 + t359)) x7_1 (wrap64 (1 + bt374.1)) 0 t353 bt374.2 (wrap64 (1 + t357)) x357001_1 x357002_1 (IntKind.u64.wrap (wrap64 (257 + x7_1))) (IntKind.u16.wrap (wrap64 (4096 * t362))) (mx (wrap64 ((wrap64 ((wrap64 (2 * (wrap64 ((wrap64 (1 + t364)) + 1)))) + 2)) + t370)) 6) (wrap64 (1 + t364)) ji21 (wrap64 (10 + t366)) t368 ([] : List (S63)))) = some (r1, r2, r3, r4, r5) := by first | (rw [hji21] at H; exact H) | (simp only [hji21] at H ⊢; exact H)
  (try rw [hji21] at A15)
  (try rw [hji21] at A16)
  (try rw [hji21] at A17)
  (try rw [hji21] at A18)
  (try rw [hji21] at A19)
  (try rw [hji21] at A20)
  (try (have hji21l : 4 ≤ ji21 := by (rw [← hji21]; unfold mx; (repeat' split) <;> omega)))
  (try (have hji21m : 0 ≤ ji21 := by omega))
  have hji21_ : (if (wrap64 ((wrap64 ((wrap64 (Int.tdiv (wrap64 ((wrap64 ((wrap64 ((wrap64 (2 * (wrap64 ((wrap64 (1 + t364)) + 1)))) + 2)) + t370)) + 1)) 2)) + 1)) + t372)) < 4 then 4 else (wrap64 ((wrap64 ((wrap64 (Int.tdiv (wrap64 ((wrap64 ((wrap64 ((wrap64 (2 * (wrap64 ((wrap64 (1 + t364)) + 1)))) + 2)) + t370)) + 1)) 2)) + 1)) + t372))) = ji21 := hji21
  obtain ⟨ji22, hji22⟩ : ∃ j_ : Int, (mx (wrap64 ((wrap64 ((wrap64 (2 * (wrap64 ((wrap64 (1 + t364)) + 1)))) + 2)) + t370)) 6) = j_ := ⟨_, rfl⟩
  replace H : ((treelineref24_At_by.f t353 t373 3).bind fun bt374 => (treelineref24_Read.l1 k1 l0 (wrap64 (1 + t359)) x7_1 (wrap64 (1 + bt374.1)) 0 t353 bt374.2 (wrap64 (1 + t357)) x357001_1 x357002_1 (IntKind.u64.wrap (wrap64 (257 + x7_1))) (IntKind.u16.wrap (wrap64 (4096 * t362))) ji22 (wrap64 (1 + t364)) ji21 (wrap64 (10 + t366)) t368 ([] : List (S63)))) = some (r1, r2, r3, r4, r5) := by first | (rw [hji22] at H; exact H) | (simp only [hji22] at H ⊢; exact H)
  (try rw [hji22] at A15)
  (try rw [hji22] at A16)
  (try rw [hji22] at A17)
  (try rw [hji22] at A18)
  (try rw [hji22] at A19)
  (try rw [hji22] at A20)
  (try (have hji22l : 6 ≤ ji22 := by (rw [← hji22]; unfold mx; (repeat' split) <;> omega)))
  (try (have hji22m : 0 ≤ ji22 := by omega))
  have hji22_ : (if (wrap64 ((wrap64 ((wrap64 (2 * (wrap64 ((wrap64 (1 + t364)) + 1)))) + 2)) + t370)) < 6 then 6 else (wrap64 ((wrap64 ((wrap64 (2 * (wrap64 ((wrap64 (1 + t364)) + 1)))) + 2)) + t370))) = ji22 := hji22
  replace H := Option.bind_eq_some_iff.mp H
  obtain ⟨⟨t374, t375⟩, A230, H⟩ := H
  (try dsimp only at H)
  have A23 := Aside0.mk A230
  clear A230
  have H' := Aside0.mk H
  clear H
  try go_wp2_with (first | ((with_reducible refine gate_dst (N := 8) rfl ?_); (try (refine gate_guard (by rfl) ?_; dsimp only)); refine box_event ?hg (N := 8) ?hd (cs := #[.int .u64 0, .int .u16 0, .int .i64 0, .int .i64 0, .int .i64 0, .int .i64 0, .int .i64 0, .slice none 0 0]) (t := 51) ?hr ?_; (case hd => rfl); (case hg => rfl); (case hr => first | (go_simp; done) | (go_simp; rfl)); intro gb361 hg w24 hbox hb; replace HO_357001 := Aside0.mk (Kd.S_below (Kd.S_elderB (bN HO_357001.out) gb361 (Nat.le_of_eq hg.symm)) hb); replace HO_357002 := Aside0.mk (Kd.S_below (bN HO_357002.out) hb); have BK361 := Aside0.mk (hbox); have GW361 := Aside0.mk ((by rw [hg]; exact (below_size bB) : w.heap.size ≤ gb361)); have GE361 := Aside0.mk ((by rw [hg]; exact (below_size bB) : w.heap.size ≤ gb361)); replace HB := Aside0.mk (below_step bB hb); have NB352_361 := Aside0.mk (nbL (bw BK352.out) hg : gb352 ≠ gb361); have NB361_352 := Aside0.mk (nbL (bw BK352.out) hg : gb352 ≠ gb361).symm; replace BK352 := Aside0.mk (blk_below (g := gb352) (o := .cells #[.int .i64 0, .slice none 0 0, .slice none 0 0, .slice none 0 0] 28 (0, 0)) (bw BK352.out) hb); have NB356_361 := Aside0.mk (nbL (bw BK356.out) hg : gb356 ≠ gb361); have NB361_356 := Aside0.mk (nbL (bw BK356.out) hg : gb356 ≠ gb361).symm; replace BK356 := Aside0.mk (blk_below (g := gb356) (o := .cells #[.int .i64 (wrap64 (1 + t357)), u357001, u357002, .slice none 0 0] 28 (0, 0)) (bw BK356.out) hb); have NB355_361 := Aside0.mk ((by rw [hg]; exact Nat.ne_of_lt (IsS59.lt (show IsS59 w _ g355 t353 x356001_1 from by exact bI HI355.out)) : g355 ≠ gb361)); have NB361_355 := Aside0.mk ((by rw [hg]; exact Nat.ne_of_gt (IsS59.lt (show IsS59 w _ g355 t353 x356001_1 from by exact bI HI355.out)) : gb361 ≠ g355)); replace HI355 := Aside0.mk (IsS59.below (bI HI355.out) hb); clear hb hbox hg; have hnb25 := NB361_352.out; have hnc25 := NB352_361.out; have hnb26 := NB361_356.out; have hnc26 := NB356_361.out; have hnb27 := NB361_355.out; have hnc27 := NB355_361.out; obtain ⟨hcz28_0, hcz28_1, hcz28_2, hcz28_3, hcz28_4, hcz28_5, hcz28_6, hcz28_7⟩ := cZ8 BK361.out; obtain ⟨hfz28_0, hfz28_1, hfz28_2, hfz28_3, hfz28_4, hfz28_5, hfz28_6, hfz28_7⟩ := fZ8 BK361.out) | ((with_reducible refine gate_callee (f := 18) rfl ?_); refine gL (some 47) Tryd.func18 #[.pointer (some ⟨g355, 0, none⟩), .int .i64 4] ?_; (with_reducible refine (treelineref24_At_by.calls g355 t353 x356001_1 4 t362 t363 w _ ?side1 ?side2 A15.out).mono ?_); (case side1 => exact bI HI355.out); (case side2 => exact bB); rintro e w29 ⟨rfl, hi, hb, hk⟩; refine ⟨_, rfl, ?_⟩; replace HO_357001 := Aside0.mk (Kd.S_mono (Kd.S_keep (IsS59.apartS (show IsS59 w _ g355 t353 x356001_1 from by exact bI HI355.out) (by refine bN ?_; exact (Kd.S_mono (Sfar8 (Kd.S_mono HO_357001.out (fun k_ hk => (⟨hk, hk.2⟩ : _ ∧ k_ ≠ gb361))) (fun _ hk => hk.2)) (fun _ h_ => h_.1))) (by decide)) hk (fun _ h => h.2)) (fun _ h => h.1)); replace HO_357002 := Aside0.mk (Kd.S_mono (Kd.S_keep (IsS59.apartS (show IsS59 w _ g355 t353 x356001_1 from by exact bI HI355.out) (by refine bN ?_; exact (Kd.S_mono (Sfar8 (Kd.S_types HO_357002.out BK361.out (by decide)) (fun _ hk => hk.2)) (fun _ h_ => h_.1))) (by decide)) hk (fun _ h => h.2)) (fun _ h => h.1)); replace BK352 := Aside0.mk (KeepBut.blk hk (g' := gb352) (o := .cells #[.int .i64 0, .slice none 0 0, .slice none 0 0, .slice none 0 0] 28 (0, 0)) (bw BK352.out) NB352_355.out (by simp)); replace BK356 := Aside0.mk (KeepBut.blk hk (g' := gb356) (o := .cells #[.int .i64 (wrap64 (1 + t357)), u357001, u357002, .slice none 0 0] 28 (0, 0)) (bw BK356.out) NB356_355.out (by simp)); replace BK361 := Aside0.mk (KeepBut.blk hk (g' := gb361) (o := .cells #[.int .u64 (IntKind.u64.wrap (wrap64 (257 + x7_1))), .int .u16 0, .int .i64 0, .int .i64 0, .int .i64 0, .int .i64 0, .int .i64 0, .slice none 0 0] 51 (0, 0)) (by exact put8 (bw BK361.out)) NB361_355.out (by simp)); replace HB := Aside0.mk (hb); replace HI355 := Aside0.mk (hi); (try clear hb); (try clear hb2); (try clear hk); (try clear hi); obtain ⟨hcz30_0, hcz30_1, hcz30_2, hcz30_3, hcz30_4, hcz30_5, hcz30_6, hcz30_7⟩ := cZ8 BK361.out; obtain ⟨hfz30_0, hfz30_1, hfz30_2, hfz30_3, hfz30_4, hfz30_5, hfz30_6, hfz30_7⟩ := fZ8 BK361.out) | ((with_reducible refine gate_callee (f := 18) rfl ?_); refine gL (some 52) Tryd.func18 #[.pointer (some ⟨g355, 0, none⟩), .int .i64 2] ?_; (with_reducible refine (treelineref24_At_by.calls g355 t353 t363 2 t364 t365 w _ ?side1 ?side2 A16.out).mono ?_); (case side1 => exact bI HI355.out); (case side2 => exact bB); rintro e w31 ⟨rfl, hi, hb, hk⟩; refine ⟨_, rfl, ?_⟩; replace HO_357001 := Aside0.mk (Kd.S_mono (Kd.S_keep (IsS59.apartS (show IsS59 w _ g355 t353 t363 from by exact bI HI355.out) (by refine bN ?_; exact (Kd.S_mono (Kd.S_far (p := ⟨gb361, 1, none⟩) (Kd.S_mono HO_357001.out (fun k_ hk => (⟨hk, hk.2⟩ : _ ∧ k_ ≠ gb361))) (fun _ hk => hk.2) (.int .u16 (IntKind.u16.wrap (wrap64 (4096 * t362))))) (fun _ h_ => h_.1))) (by decide)) hk (fun _ h => h.2)) (fun _ h => h.1)); replace HO_357002 := Aside0.mk (Kd.S_mono (Kd.S_keep (IsS59.apartS (show IsS59 w _ g355 t353 t363 from by exact bI HI355.out) (by refine bN ?_; exact (Kd.S_mono (Kd.S_far (p := ⟨gb361, 1, none⟩) (Kd.S_types HO_357002.out BK361.out (by decide)) (fun _ hk => hk.2) (.int .u16 (IntKind.u16.wrap (wrap64 (4096 * t362))))) (fun _ h_ => h_.1))) (by decide)) hk (fun _ h => h.2)) (fun _ h => h.1)); replace BK352 := Aside0.mk (KeepBut.blk hk (g' := gb352) (o := .cells #[.int .i64 0, .slice none 0 0, .slice none 0 0, .slice none 0 0] 28 (0, 0)) (bw BK352.out) NB352_355.out (by simp)); replace BK356 := Aside0.mk (KeepBut.blk hk (g' := gb356) (o := .cells #[.int .i64 (wrap64 (1 + t357)), u357001, u357002, .slice none 0 0] 28 (0, 0)) (bw BK356.out) NB356_355.out (by simp)); replace BK361 := Aside0.mk (KeepBut.blk hk (g' := gb361) (o := .cells #[.int .u64 (IntKind.u64.wrap (wrap64 (257 + x7_1))), .int .u16 (IntKind.u16.wrap (wrap64 (4096 * t362))), .int .i64 0, .int .i64 0, .int .i64 0, .int .i64 0, .int .i64 0, .slice none 0 0] 51 (0, 0)) (by refine bW ?_; refine blk_put (cs := #[.int .u64 (IntKind.u64.wrap (wrap64 (257 + x7_1))), .int .u16 0, .int .i64 0, .int .i64 0, .int .i64 0, .int .i64 0, .int .i64 0, .slice none 0 0]) ?_ 1 _ rfl; exact bw BK361.out) NB361_355.out (by simp)); replace HB := Aside0.mk (hb); replace HI355 := Aside0.mk (hi); (try clear hb); (try clear hb2); (try clear hk); (try clear hi); obtain ⟨hcz32_0, hcz32_1, hcz32_2, hcz32_3, hcz32_4, hcz32_5, hcz32_6, hcz32_7⟩ := cZ8 BK361.out; obtain ⟨hfz32_0, hfz32_1, hfz32_2, hfz32_3, hfz32_4, hfz32_5, hfz32_6, hfz32_7⟩ := fZ8 BK361.out) | ((with_reducible refine gate_callee (f := 18) rfl ?_); refine gL (some 56) Tryd.func18 #[.pointer (some ⟨g355, 0, none⟩), .int .i64 20] ?_; (with_reducible refine (treelineref24_At_by.calls g355 t353 t365 20 t366 t367 w _ ?side1 ?side2 A17.out).mono ?_); (case side1 => exact bI HI355.out); (case side2 => exact bB); rintro e w33 ⟨rfl, hi, hb, hk⟩; refine ⟨_, rfl, ?_⟩; replace HO_357001 := Aside0.mk (Kd.S_mono (Kd.S_keep (IsS59.apartS (show IsS59 w _ g355 t353 t365 from by exact bI HI355.out) (by refine bN ?_; exact (Kd.S_mono (Kd.S_far (p := ⟨gb361, 3, none⟩) (Kd.S_mono HO_357001.out (fun k_ hk => (⟨hk, hk.2⟩ : _ ∧ k_ ≠ gb361))) (fun _ hk => hk.2) (.int .i64 (wrap64 (1 + t364)))) (fun _ h_ => h_.1))) (by decide)) hk (fun _ h => h.2)) (fun _ h => h.1)); replace HO_357002 := Aside0.mk (Kd.S_mono (Kd.S_keep (IsS59.apartS (show IsS59 w _ g355 t353 t365 from by exact bI HI355.out) (by refine bN ?_; exact (Kd.S_mono (Kd.S_far (p := ⟨gb361, 3, none⟩) (Kd.S_types HO_357002.out BK361.out (by decide)) (fun _ hk => hk.2) (.int .i64 (wrap64 (1 + t364)))) (fun _ h_ => h_.1))) (by decide)) hk (fun _ h => h.2)) (fun _ h => h.1)); replace BK352 := Aside0.mk (KeepBut.blk hk (g' := gb352) (o := .cells #[.int .i64 0, .slice none 0 0, .slice none 0 0, .slice none 0 0] 28 (0, 0)) (bw BK352.out) NB352_355.out (by simp)); replace BK356 := Aside0.mk (KeepBut.blk hk (g' := gb356) (o := .cells #[.int .i64 (wrap64 (1 + t357)), u357001, u357002, .slice none 0 0] 28 (0, 0)) (bw BK356.out) NB356_355.out (by simp)); replace BK361 := Aside0.mk (KeepBut.blk hk (g' := gb361) (o := .cells #[.int .u64 (IntKind.u64.wrap (wrap64 (257 + x7_1))), .int .u16 (IntKind.u16.wrap (wrap64 (4096 * t362))), .int .i64 0, .int .i64 (wrap64 (1 + t364)), .int .i64 0, .int .i64 0, .int .i64 0, .slice none 0 0] 51 (0, 0)) (by refine bW ?_; refine blk_put (cs := #[.int .u64 (IntKind.u64.wrap (wrap64 (257 + x7_1))), .int .u16 (IntKind.u16.wrap (wrap64 (4096 * t362))), .int .i64 0, .int .i64 0, .int .i64 0, .int .i64 0, .int .i64 0, .slice none 0 0]) ?_ 3 _ rfl; exact bw BK361.out) NB361_355.out (by simp)); replace HB := Aside0.mk (hb); replace HI355 := Aside0.mk (hi); (try clear hb); (try clear hb2); (try clear hk); (try clear hi); obtain ⟨hcz34_0, hcz34_1, hcz34_2, hcz34_3, hcz34_4, hcz34_5, hcz34_6, hcz34_7⟩ := cZ8 BK361.out; obtain ⟨hfz34_0, hfz34_1, hfz34_2, hfz34_3, hfz34_4, hfz34_5, hfz34_6, hfz34_7⟩ := fZ8 BK361.out) | ((with_reducible refine gate_callee (f := 18) rfl ?_); refine gL (some 60) Tryd.func18 #[.pointer (some ⟨g355, 0, none⟩), .int .i64 9] ?_; (with_reducible refine (treelineref24_At_by.calls g355 t353 t367 9 t368 t369 w _ ?side1 ?side2 A18.out).mono ?_); (case side1 => exact bI HI355.out); (case side2 => exact bB); rintro e w35 ⟨rfl, hi, hb, hk⟩; refine ⟨_, rfl, ?_⟩; replace HO_357001 := Aside0.mk (Kd.S_mono (Kd.S_keep (IsS59.apartS (show IsS59 w _ g355 t353 t367 from by exact bI HI355.out) (by refine bN ?_; exact (Kd.S_mono (Kd.S_far (p := ⟨gb361, 5, none⟩) (Kd.S_mono HO_357001.out (fun k_ hk => (⟨hk, hk.2⟩ : _ ∧ k_ ≠ gb361))) (fun _ hk => hk.2) (.int .i64 (wrap64 (10 + t366)))) (fun _ h_ => h_.1))) (by decide)) hk (fun _ h => h.2)) (fun _ h => h.1)); replace HO_357002 := Aside0.mk (Kd.S_mono (Kd.S_keep (IsS59.apartS (show IsS59 w _ g355 t353 t367 from by exact bI HI355.out) (by refine bN ?_; exact (Kd.S_mono (Kd.S_far (p := ⟨gb361, 5, none⟩) (Kd.S_types HO_357002.out BK361.out (by decide)) (fun _ hk => hk.2) (.int .i64 (wrap64 (10 + t366)))) (fun _ h_ => h_.1))) (by decide)) hk (fun _ h => h.2)) (fun _ h => h.1)); replace BK352 := Aside0.mk (KeepBut.blk hk (g' := gb352) (o := .cells #[.int .i64 0, .slice none 0 0, .slice none 0 0, .slice none 0 0] 28 (0, 0)) (bw BK352.out) NB352_355.out (by simp)); replace BK356 := Aside0.mk (KeepBut.blk hk (g' := gb356) (o := .cells #[.int .i64 (wrap64 (1 + t357)), u357001, u357002, .slice none 0 0] 28 (0, 0)) (bw BK356.out) NB356_355.out (by simp)); replace BK361 := Aside0.mk (KeepBut.blk hk (g' := gb361) (o := .cells #[.int .u64 (IntKind.u64.wrap (wrap64 (257 + x7_1))), .int .u16 (IntKind.u16.wrap (wrap64 (4096 * t362))), .int .i64 0, .int .i64 (wrap64 (1 + t364)), .int .i64 0, .int .i64 (wrap64 (10 + t366)), .int .i64 0, .slice none 0 0] 51 (0, 0)) (by refine bW ?_; refine blk_put (cs := #[.int .u64 (IntKind.u64.wrap (wrap64 (257 + x7_1))), .int .u16 (IntKind.u16.wrap (wrap64 (4096 * t362))), .int .i64 0, .int .i64 (wrap64 (1 + t364)), .int .i64 0, .int .i64 0, .int .i64 0, .slice none 0 0]) ?_ 5 _ rfl; exact bw BK361.out) NB361_355.out (by simp)); replace HB := Aside0.mk (hb); replace HI355 := Aside0.mk (hi); (try clear hb); (try clear hb2); (try clear hk); (try clear hi); obtain ⟨hcz36_0, hcz36_1, hcz36_2, hcz36_3, hcz36_4, hcz36_5, hcz36_6, hcz36_7⟩ := cZ8 BK361.out; obtain ⟨hfz36_0, hfz36_1, hfz36_2, hfz36_3, hfz36_4, hfz36_5, hfz36_6, hfz36_7⟩ := fZ8 BK361.out))
  have n0_ : Aside0 (Kd.S k51 51 (w35.setCell ⟨gb361, 6, none⟩ (.int .i64 t368)) w.heap.size (fun k_ => k_ ≠ gb361) u357001 x357001_1) := ⟨by refine bN ?_; exact Kd.S_mono (Kd.S_far (p := ⟨gb361, 6, none⟩) (Kd.S_mono HO_357001.out (fun k_ hk => (⟨hk, hk.2⟩ : _ ∧ k_ ≠ gb361))) (fun _ hk => hk.2) (.int .i64 t368)) (fun _ hk => hk.1.2)⟩
  have n1_ : Aside0 (Kd.S (Kd.slice 3 (Kd.int .i64)) 64 (w35.setCell ⟨gb361, 6, none⟩ (.int .i64 t368)) w.heap.size (fun _ => True) u357002 x357002_1) := ⟨by refine bN ?_; exact Kd.S_mono (Kd.S_far (p := ⟨gb361, 6, none⟩) (Kd.S_types HO_357002.out BK361.out (by decide)) (fun _ hk => hk.2) (.int .i64 t368)) (fun _ hk => trivial)⟩
  have n2_ : Aside0 ((w35.setCell ⟨gb361, 6, none⟩ (.int .i64 t368)).heap[gb352]? = some (.cells #[.int .i64 0, .slice none 0 0, .slice none 0 0, .slice none 0 0] 28 (0, 0))) := ⟨bw BK352.out⟩
  have n3_ : Aside0 ((w35.setCell ⟨gb361, 6, none⟩ (.int .i64 t368)).heap[gb356]? = some (.cells #[.int .i64 (wrap64 (1 + t357)), u357001, u357002, .slice none 0 0] 28 (0, 0))) := ⟨bw BK356.out⟩
  have n4_ : Aside0 ((w35.setCell ⟨gb361, 6, none⟩ (.int .i64 t368)).heap[gb361]? = some (.cells #[.int .u64 (IntKind.u64.wrap (wrap64 (257 + x7_1))), .int .u16 (IntKind.u16.wrap (wrap64 (4096 * t362))), .int .i64 0, .int .i64 (wrap64 (1 + t364)), .int .i64 0, .int .i64 (wrap64 (10 + t366)), .int .i64 t368, .slice none 0 0] 51 (0, 0))) := ⟨by refine bW ?_; refine blk_put (cs := #[.int .u64 (IntKind.u64.wrap (wrap64 (257 + x7_1))), .int .u16 (IntKind.u16.wrap (wrap64 (4096 * t362))), .int .i64 0, .int .i64 (wrap64 (1 + t364)), .int .i64 0, .int .i64 (wrap64 (10 + t366)), .int .i64 0, .slice none 0 0]) ?_ 6 _ rfl; exact bw BK361.out⟩
  have n5_ : Aside0 (IsS59 w (w35.setCell ⟨gb361, 6, none⟩ (.int .i64 t368)) g355 t353 t369) := ⟨bI HI355.out⟩
  have n6_ : Aside0 (Below w.heap.size w (w35.setCell ⟨gb361, 6, none⟩ (.int .i64 t368))) := ⟨bB⟩
  (try clear HO_357001)
  (try clear HO_357002)
  (try clear BK352)
  (try clear BK356)
  (try clear BK361)
  (try clear HI355)
  (try clear HB)
  (try simp only [setCell_drewN_])
  generalize (w35.setCell ⟨gb361, 6, none⟩ (.int .i64 t368)) = w37 at n0_ n1_ n2_ n3_ n4_ n5_ n6_ ⊢
  have HO_357001 := n0_
  have HO_357002 := n1_
  have BK352 := n2_
  have BK356 := n3_
  have BK361 := n4_
  have HI355 := n5_
  have HB := n6_
  clear n0_ n1_ n2_ n3_ n4_ n5_ n6_
  replace HO_357001 := Aside0.mk (Kd.S_drew HO_357001.out)
  replace HO_357002 := Aside0.mk (Kd.S_drew HO_357002.out)
  replace BK352 := Aside0.mk (blk_drew BK352.out)
  replace BK356 := Aside0.mk (blk_drew BK356.out)
  replace BK361 := Aside0.mk (blk_drew BK361.out)
  replace HI355 := Aside0.mk (IsS59.drew HI355.out)
  replace HB := Aside0.mk (below_drew1 HB.out)
  refine start_ (n := 9) (S := fun w' => w'.cell? ⟨gb361, 0, none⟩ = some (.int .u64 (IntKind.u64.wrap (wrap64 (257 + x7_1)))) ∧ w'.cell? ⟨gb361, 1, none⟩ = some (.int .u16 (IntKind.u16.wrap (wrap64 (4096 * t362)))) ∧ w'.cell? ⟨gb361, 2, none⟩ = some (.int .i64 0) ∧ w'.cell? ⟨gb361, 3, none⟩ = some (.int .i64 (wrap64 (1 + t364))) ∧ w'.cell? ⟨gb361, 4, none⟩ = some (.int .i64 0) ∧ w'.cell? ⟨gb361, 5, none⟩ = some (.int .i64 (wrap64 (10 + t366))) ∧ w'.cell? ⟨gb361, 6, none⟩ = some (.int .i64 t368) ∧ w'.cell? ⟨gb361, 7, none⟩ = some (.slice none 0 0)) (ds := []) #[false, false, false, false, false, false, false, false, false] (by kernel_rfl) rfl rfl ⟨(blk_cell BK361.out 0).trans rfl, (blk_cell BK361.out 1).trans rfl, (blk_cell BK361.out 2).trans rfl, (blk_cell BK361.out 3).trans rfl, (blk_cell BK361.out 4).trans rfl, (blk_cell BK361.out 5).trans rfl, (blk_cell BK361.out 6).trans rfl, (blk_cell BK361.out 7).trans rfl⟩ (fun hHeld => ?_); refine with_tabW treelineref24_Read.tab13 treelineref24_Read.bits13 (fun HT_ HW_ => ?_)
  generalize w37.drew = w38 at HO_357001 HO_357002 BK352 BK356 BK361 HI355 HB hHeld ⊢
  refine pS 0 62 HT_ ?_
  refine pS 5 67 HT_ ?_
  refine tS 1 63 HT_ HW_ hHeld ?_
  refine pS 2 64 HT_ ?_
  refine pS 3 65 HT_ ?_
  refine pS 4 66 HT_ ?_
  refine one_ (i := 6) (N := some 68) #[true, true, true, true, true, true, true, false, false] rfl rfl (one_of HT_.out (by kernel_rfl)) (by decide) (fun K hK => ?_)
  refine goes_ Tryd.func18 (by kernel_rfl) rfl #[.pointer (some ⟨g355, 0, none⟩), .int .i64 16] (by rfl) rfl rfl (by (try simp only [List.map_toArray, List.map_cons, List.map_nil]); first | done | rfl | (simp only [List.length_drop, List.length_take]; rfl)) ?_
  with_reducible refine (treelineref24_At_by.calls g355 t353 t369 16 t370 t371 w _ ?side1 ?side2 A19.out).mono ?_
  (case side1 => exact bI HI355.out)
  (case side2 => exact bB)
  rintro e w39 ⟨rfl, hi, hb, hk⟩
  refine ⟨_, rfl, ?_⟩
  replace HO_357001 := Aside0.mk (Kd.S_mono (Kd.S_keep (IsS59.apartS (show IsS59 w _ g355 t353 t369 from by exact bI HI355.out) (bN HO_357001.out) (by decide)) hk (fun _ h => h.2)) (fun _ h => h.1))
  replace HO_357002 := Aside0.mk (Kd.S_mono (Kd.S_keep (IsS59.apartS (show IsS59 w _ g355 t353 t369 from by exact bI HI355.out) (bN HO_357002.out) (by decide)) hk (fun _ h => h.2)) (fun _ h => h.1))
  replace BK352 := Aside0.mk (KeepBut.blk hk (g' := gb352) (o := .cells #[.int .i64 0, .slice none 0 0, .slice none 0 0, .slice none 0 0] 28 (0, 0)) (bw BK352.out) NB352_355.out (by simp))
  replace BK356 := Aside0.mk (KeepBut.blk hk (g' := gb356) (o := .cells #[.int .i64 (wrap64 (1 + t357)), u357001, u357002, .slice none 0 0] 28 (0, 0)) (bw BK356.out) NB356_355.out (by simp))
  replace BK361 := Aside0.mk (KeepBut.blk hk (g' := gb361) (o := .cells #[.int .u64 (IntKind.u64.wrap (wrap64 (257 + x7_1))), .int .u16 (IntKind.u16.wrap (wrap64 (4096 * t362))), .int .i64 0, .int .i64 (wrap64 (1 + t364)), .int .i64 0, .int .i64 (wrap64 (10 + t366)), .int .i64 t368, .slice none 0 0] 51 (0, 0)) (bw BK361.out) NB361_355.out (by simp))
  replace HB := Aside0.mk (hb)
  replace HI355 := Aside0.mk (hi)
  (try clear hb)
  (try clear hb2)
  (try clear hk)
  (try clear hi)
  refine hK.out _ _ ⟨(blk_cell BK361.out 0).trans rfl, (blk_cell BK361.out 1).trans rfl, (blk_cell BK361.out 2).trans rfl, (blk_cell BK361.out 3).trans rfl, (blk_cell BK361.out 4).trans rfl, (blk_cell BK361.out 5).trans rfl, (blk_cell BK361.out 6).trans rfl, (blk_cell BK361.out 7).trans rfl⟩ (fun hHeld => ?_)
  clear hK K
  refine nS 68 ?_
  refine pS 7 69 HT_ ?_
  refine pS 8 9 HT_ ?_
  refine done_ (done_of HT_.out (by kernel_rfl)) ?_
  try go_wp2_with (first | ((with_reducible refine gate_callee (f := 18) rfl ?_); refine gL (some 75) Tryd.func18 #[.pointer (some ⟨g355, 0, none⟩), .int .i64 4] ?_; (with_reducible refine (treelineref24_At_by.calls g355 t353 t371 4 t372 t373 w _ ?side1 ?side2 A20.out).mono ?_); (case side1 => exact bI HI355.out); (case side2 => exact bB); rintro e w40 ⟨rfl, hi, hb, hk⟩; refine ⟨_, rfl, ?_⟩; replace HO_357001 := Aside0.mk (Kd.S_mono (Kd.S_keep (IsS59.apartS (show IsS59 w _ g355 t353 t371 from by exact bI HI355.out) (bN HO_357001.out) (by decide)) hk (fun _ h => h.2)) (fun _ h => h.1)); replace HO_357002 := Aside0.mk (Kd.S_mono (Kd.S_keep (IsS59.apartS (show IsS59 w _ g355 t353 t371 from by exact bI HI355.out) (bN HO_357002.out) (by decide)) hk (fun _ h => h.2)) (fun _ h => h.1)); replace BK352 := Aside0.mk (KeepBut.blk hk (g' := gb352) (o := .cells #[.int .i64 0, .slice none 0 0, .slice none 0 0, .slice none 0 0] 28 (0, 0)) (bw BK352.out) NB352_355.out (by simp)); replace BK356 := Aside0.mk (KeepBut.blk hk (g' := gb356) (o := .cells #[.int .i64 (wrap64 (1 + t357)), u357001, u357002, .slice none 0 0] 28 (0, 0)) (bw BK356.out) NB356_355.out (by simp)); replace BK361 := Aside0.mk (KeepBut.blk hk (g' := gb361) (o := .cells #[.int .u64 (IntKind.u64.wrap (wrap64 (257 + x7_1))), .int .u16 (IntKind.u16.wrap (wrap64 (4096 * t362))), .int .i64 0, .int .i64 (wrap64 (1 + t364)), .int .i64 0, .int .i64 (wrap64 (10 + t366)), .int .i64 t368, .slice none 0 0] 51 (0, 0)) (bw BK361.out) NB361_355.out (by simp)); replace HB := Aside0.mk (hb); replace HI355 := Aside0.mk (hi); (try clear hb); (try clear hb2); (try clear hk); (try clear hi); obtain ⟨hcz41_0, hcz41_1, hcz41_2, hcz41_3, hcz41_4, hcz41_5, hcz41_6, hcz41_7⟩ := cZ8 BK361.out; obtain ⟨hfz41_0, hfz41_1, hfz41_2, hfz41_3, hfz41_4, hfz41_5, hfz41_6, hfz41_7⟩ := fZ8 BK361.out) | ((with_reducible refine gate_callee (f := 18) rfl ?_); refine gL (some 83) Tryd.func18 #[.pointer (some ⟨g355, 0, none⟩), .int .i64 3] ?_; (with_reducible refine (treelineref24_At_by.calls g355 t353 t373 3 t374 t375 w _ ?side1 ?side2 A23.out).mono ?_); (case side1 => exact bI HI355.out); (case side2 => exact bB); rintro e w42 ⟨rfl, hi, hb, hk⟩; refine ⟨_, rfl, ?_⟩; replace HO_357001 := Aside0.mk (Kd.S_mono (Kd.S_keep (IsS59.apartS (show IsS59 w _ g355 t353 t373 from by exact bI HI355.out) (by refine bN ?_; exact (Kd.S_mono (Sfar2 (Kd.S_mono HO_357001.out (fun k_ hk => (⟨hk, hk⟩ : _ ∧ k_ ≠ gb361))) (fun _ hk => hk.2)) (fun _ h_ => h_.1))) (by decide)) hk (fun _ h => h.2)) (fun _ h => h.1)); replace HO_357002 := Aside0.mk (Kd.S_mono (Kd.S_keep (IsS59.apartS (show IsS59 w _ g355 t353 t373 from by exact bI HI355.out) (by refine bN ?_; exact (Kd.S_mono (Sfar2 (Kd.S_types HO_357002.out BK361.out (by decide)) (fun _ hk => hk.2)) (fun _ h_ => h_.1))) (by decide)) hk (fun _ h => h.2)) (fun _ h => h.1)); replace BK352 := Aside0.mk (KeepBut.blk hk (g' := gb352) (o := .cells #[.int .i64 0, .slice none 0 0, .slice none 0 0, .slice none 0 0] 28 (0, 0)) (bw BK352.out) NB352_355.out (by simp)); replace BK356 := Aside0.mk (KeepBut.blk hk (g' := gb356) (o := .cells #[.int .i64 (wrap64 (1 + t357)), u357001, u357002, .slice none 0 0] 28 (0, 0)) (bw BK356.out) NB356_355.out (by simp)); replace BK361 := Aside0.mk (KeepBut.blk hk (g' := gb361) (o := .cells #[.int .u64 (IntKind.u64.wrap (wrap64 (257 + x7_1))), .int .u16 (IntKind.u16.wrap (wrap64 (4096 * t362))), .int .i64 ji22, .int .i64 (wrap64 (1 + t364)), .int .i64 ji21, .int .i64 (wrap64 (10 + t366)), .int .i64 t368, .slice none 0 0] 51 (0, 0)) (by refine bW ?_; refine blk_put (cs := #[.int .u64 (IntKind.u64.wrap (wrap64 (257 + x7_1))), .int .u16 (IntKind.u16.wrap (wrap64 (4096 * t362))), .int .i64 0, .int .i64 (wrap64 (1 + t364)), .int .i64 ji21, .int .i64 (wrap64 (10 + t366)), .int .i64 t368, .slice none 0 0]) ?_ 2 _ rfl; refine bW ?_; refine blk_put (cs := #[.int .u64 (IntKind.u64.wrap (wrap64 (257 + x7_1))), .int .u16 (IntKind.u16.wrap (wrap64 (4096 * t362))), .int .i64 0, .int .i64 (wrap64 (1 + t364)), .int .i64 0, .int .i64 (wrap64 (10 + t366)), .int .i64 t368, .slice none 0 0]) ?_ 4 _ rfl; exact bw BK361.out) NB361_355.out (by simp)); replace HB := Aside0.mk (hb); replace HI355 := Aside0.mk (hi); (try clear hb); (try clear hb2); (try clear hk); (try clear hi)))
  go_loopg [11] k1 (fun kq v11 w' => ∃ (x11_2 : Int) (x356001_2 : Int) (x362007_2 : List (S63)) (u362007 : Value), v11 = .int .i64 x11_2 ∧ Aside0 (treelineref24_Read.l1 kq l0 (wrap64 (1 + t359)) x7_1 (wrap64 (1 + t374)) x11_2 t353 x356001_2 (wrap64 (1 + t357)) x357001_1 x357002_1 (IntKind.u64.wrap (wrap64 (257 + x7_1))) (IntKind.u16.wrap (wrap64 (4096 * t362))) ji22 (wrap64 (1 + t364)) ji21 (wrap64 (10 + t366)) t368 x362007_2 = some (r1, r2, r3, r4, r5)) ∧ Aside0 (kq ≤ k1) ∧ Aside0 (Kd.S k51 51 w' w.heap.size (fun k_ => some k_ ≠ (u362007 : Value).ownBlock ∧ k_ ≠ gb361) u357001 x357001_1) ∧ Aside0 (Kd.S (Kd.slice 3 (Kd.int .i64)) 64 w' w.heap.size (fun _ => True) u357002 x357002_1) ∧ Aside0 (Kd.R k63 63 w' w.heap.size (fun _ => True) u362007 x362007_2) ∧ Aside0 (w'.heap[gb352]? = some (.cells #[.int .i64 0, (.slice none 0 0), (.slice none 0 0), (.slice none 0 0)] 28 (0, 0))) ∧ Aside0 (w'.heap[gb356]? = some (.cells #[.int .i64 (wrap64 (1 + t357)), u357001, u357002, (.slice none 0 0)] 28 (0, 0))) ∧ Aside0 (w'.heap[gb361]? = some (.cells #[.int .u64 (IntKind.u64.wrap (wrap64 (257 + x7_1))), .int .u16 (IntKind.u16.wrap (wrap64 (4096 * t362))), .int .i64 ji22, .int .i64 (wrap64 (1 + t364)), .int .i64 ji21, .int .i64 (wrap64 (10 + t366)), .int .i64 t368, u362007] 51 (0, 0))) ∧ Aside0 (IsS59 w w' g355 t353 x356001_2) ∧ Aside0 (Below w.heap.size w w'))
  case atStart => exact ⟨(0), (t375), (([] : List (S63))), (.slice none 0 0), (by first | rfl | (simp; done) | (simp [*]; done)), H', ⟨Nat.le_refl _⟩, ⟨by refine bN ?_; exact Kd.S_mono HO_357001.out (fun _ hk => ⟨(by simp [Value.ownBlock]), hk⟩)⟩, ⟨bN HO_357002.out⟩, ⟨by first | exact Kd.R_nil _ _ _ _ _ | exact Kd.N_nil _ _ _ _ _ | exact Kd.V_nil _ _ _ _ _ | exact Kd.Q_nil _ _ _ _ _ | exact Kd.S_nil _ _ _ _ _⟩, ⟨bw BK352.out⟩, ⟨bw BK356.out⟩, ⟨bw BK361.out⟩, ⟨bI HI355.out⟩, ⟨bB⟩⟩
  clear H'
  try clear p2
  try clear p6
  try clear c14
  try clear c14b0
  try clear hcz28_0
  try clear hcz28_1
  try clear hcz28_2
  try clear hcz28_3
  try clear hcz28_4
  try clear hcz28_5
  try clear hcz28_6
  try clear hcz28_7
  try clear hcz30_0
  try clear hcz30_1
  try clear hcz30_2
  try clear hcz30_3
  try clear hcz30_4
  try clear hcz30_5
  try clear hcz30_6
  try clear hcz30_7
  try clear hcz32_0
  try clear hcz32_1
  try clear hcz32_2
  try clear hcz32_3
  try clear hcz32_4
  try clear hcz32_5
  try clear hcz32_6
  try clear hcz32_7
  try clear hcz34_0
  try clear hcz34_1
  try clear hcz34_2
  try clear hcz34_3
  try clear hcz34_4
  try clear hcz34_5
  try clear hcz34_6
  try clear hcz34_7
  try clear hcz36_0
  try clear hcz36_1
  try clear hcz36_2
  try clear hcz36_3
  try clear hcz36_4
  try clear hcz36_5
  try clear hcz36_6
  try clear hcz36_7
  try clear hcz41_0
  try clear hcz41_1
  try clear hcz41_2
  try clear hcz41_3
  try clear hcz41_4
  try clear hcz41_5
  try clear hcz41_6
  try clear hcz41_7
  try clear hfz28_0
  try clear hfz28_1
  try clear hfz28_2
  try clear hfz28_3
  try clear hfz28_4
  try clear hfz28_5
  try clear hfz28_6
  try clear hfz28_7
  try clear hfz30_0
  try clear hfz30_1
  try clear hfz30_2
  try clear hfz30_3
  try clear hfz30_4
  try clear hfz30_5
  try clear hfz30_6
  try clear hfz30_7
  try clear hfz32_0
  try clear hfz32_1
  try clear hfz32_2
  try clear hfz32_3
  try clear hfz32_4
  try clear hfz32_5
  try clear hfz32_6
  try clear hfz32_7
  try clear hfz34_0
  try clear hfz34_1
  try clear hfz34_2
  try clear hfz34_3
  try clear hfz34_4
  try clear hfz34_5
  try clear hfz34_6
  try clear hfz34_7
  try clear hfz36_0
  try clear hfz36_1
  try clear hfz36_2
  try clear hfz36_3
  try clear hfz36_4
  try clear hfz36_5
  try clear hfz36_6
  try clear hfz36_7
  try clear hfz41_0
  try clear hfz41_1
  try clear hfz41_2
  try clear hfz41_3
  try clear hfz41_4
  try clear hfz41_5
  try clear hfz41_6
  try clear hfz41_7
  try clear p2
  try clear p6
  obtain ⟨x11_2, x356001_2, x362007_2, u362007, rfl, HA, HK2, HO_357001, HO_357002, HO_362007, BK352, BK356, BK361, HI355, HB⟩ := hrel
  cases gk with
  | zero => exact absurd HA.out (by simp [treelineref24_Read.l1])
  | succ k2 => ?_
  have H := HA.out
  clear HA
  simp only [treelineref24_Read.l1] at H
  by_cases c43 : x11_2 < (wrap64 (1 + t374))
  ·rw [if_pos c43] at H
   have c43b0 : decide (x11_2 < (wrap64 (1 + t374))) = true := decide_eq_true c43
   clear c43
   replace H := Option.bind_eq_some_iff.mp H
   obtain ⟨⟨t376, t377⟩, A440, H⟩ := H
   (try dsimp only at H)
   have A44 := Aside0.mk A440
   clear A440
   by_cases c45 : x362007_2.length < 11728124029610
   rotate_left
   ·rw [if_neg c45] at H
    exact absurd H (by simp)
   rw [if_pos c45] at H
   have LMc45 := Aside0.mk c45
   clear c45
   obtain ⟨y378, hy378⟩ : ∃ y_ : List (S63), y_ = (x362007_2 ++ [(⟨128, (wrap64 (1 + (Int.tmod t376 50))) % 4294967296, decide (t376 < 230)⟩ : S63)]) := ⟨_, rfl⟩
   replace H : (treelineref24_Read.l1 k2 l0 (wrap64 (1 + t359)) x7_1 (wrap64 (1 + t374)) (wrap64 (x11_2 + 1)) t353 t377 (wrap64 (1 + t357)) x357001_1 x357002_1 (IntKind.u64.wrap (wrap64 (257 + x7_1))) (IntKind.u16.wrap (wrap64 (4096 * t362))) ji22 (wrap64 (1 + t364)) ji21 (wrap64 (10 + t366)) t368 y378) = some (r1, r2, r3, r4, r5) := by first | (rw [hy378]; with_reducible exact H) | (have H2_ := (Option.bind_some _ _).symm.trans H; rw [hy378]; with_reducible exact H2_) | (have H2_ := (Option.bind_some _ _).symm.trans H; with_reducible exact H2_) | with_reducible exact H | (rw [hy378]; exact H) | exact H
   have Ny378 := Aside0.mk hy378
   clear hy378
   have H' := Aside0.mk H
   clear H
   go_wp2_with (first | ((with_reducible refine gate_callee (f := 18) rfl ?_); refine gL (some 91) Tryd.func18 #[.pointer (some ⟨g355, 0, none⟩), .int .i64 256] ?_; (with_reducible refine (treelineref24_At_by.calls g355 t353 x356001_2 256 t376 t377 w _ ?side1 ?side2 A44.out).mono ?_); (case side1 => exact bI HI355.out); (case side2 => exact bB); rintro e w46 ⟨rfl, hi, hb, hk⟩; refine ⟨_, rfl, ?_⟩; replace HO_357001 := Aside0.mk (Kd.S_mono (Kd.S_keep (IsS59.apartS (show IsS59 w _ g355 t353 x356001_2 from by exact bI HI355.out) (bN HO_357001.out) (by decide)) hk (fun _ h => h.2)) (fun _ h => h.1)); replace HO_357002 := Aside0.mk (Kd.S_mono (Kd.S_keep (IsS59.apartS (show IsS59 w _ g355 t353 x356001_2 from by exact bI HI355.out) (bN HO_357002.out) (by decide)) hk (fun _ h => h.2)) (fun _ h => h.1)); replace HO_362007 := Aside0.mk (Kd.R_mono (Kd.R_keep (IsS59.apart (show IsS59 w _ g355 t353 x356001_2 from by exact bI HI355.out) (bN HO_362007.out) (by decide)) hk (fun _ h => h.2)) (fun _ h => h.1)); replace BK352 := Aside0.mk (KeepBut.blk hk (g' := gb352) (o := .cells #[.int .i64 0, .slice none 0 0, .slice none 0 0, .slice none 0 0] 28 (0, 0)) (bw BK352.out) NB352_355.out (by simp)); replace BK356 := Aside0.mk (KeepBut.blk hk (g' := gb356) (o := .cells #[.int .i64 (wrap64 (1 + t357)), u357001, u357002, .slice none 0 0] 28 (0, 0)) (bw BK356.out) NB356_355.out (by simp)); replace BK361 := Aside0.mk (KeepBut.blk hk (g' := gb361) (o := .cells #[.int .u64 (IntKind.u64.wrap (wrap64 (257 + x7_1))), .int .u16 (IntKind.u16.wrap (wrap64 (4096 * t362))), .int .i64 ji22, .int .i64 (wrap64 (1 + t364)), .int .i64 ji21, .int .i64 (wrap64 (10 + t366)), .int .i64 t368, u362007] 51 (0, 0)) (bw BK361.out) NB361_355.out (by simp)); replace HB := Aside0.mk (hb); replace HI355 := Aside0.mk (hi); (try clear hb); (try clear hb2); (try clear hk); (try clear hi); have hnb47 := NB361_352.out; have hnc47 := NB352_361.out; have hnb48 := NB361_356.out; have hnc48 := NB356_361.out; have hnb49 := NB361_355.out; have hnc49 := NB355_361.out; obtain ⟨hcz50_0, hcz50_1, hcz50_2, hcz50_3, hcz50_4, hcz50_5, hcz50_6, hcz50_7⟩ := cZ8 BK361.out; obtain ⟨hfz50_0, hfz50_1, hfz50_2, hfz50_3, hfz50_4, hfz50_5, hfz50_6, hfz50_7⟩ := fZ8 BK361.out) | ((with_reducible refine gate_builtin (b := .append) (xs := #[.tmp 93, .tmp 101]) rfl ?_); (try (refine gate_guard (by rfl) ?_; dsimp only)); at_builtin; refine Kd.R_append k63 (w0 := w) w.heap.size rfl (.tmp 93) (.tmp 101) 49 63 (.agg #[(.int .u8 0), (.int .u32 0), (.bool false)]) 12 rfl Tryd.underlying49 info63 rfl (by decide) (by omega) u362007 x362007_2 (⟨128, (wrap64 (1 + (Int.tmod t376 50))) % 4294967296, decide (t376 < 230)⟩ : S63) [.int .u8 128, .int .u32 ((wrap64 (1 + (Int.tmod t376 50))) % 4294967296), .bool (decide (t376 < 230))] (fun _ => True) (fun _ => False) rfl rfl ?aP (fun _ hk => hk.elim) ?aF ?aO ?aB ?aS ?aL ?_; (case aP => exact k63_mkM _ _ _ (⟨128, (wrap64 (1 + (Int.tmod t376 50))) % 4294967296, decide (t376 < 230)⟩ : S63)); (case aB => exact bB); (case aF => exact (fun _ _ => trivial)); (case aO => exact (bN HO_362007.out)); (case aS => exact (below_size bB)); (case aL => have := LMc45.out; omega); intro v379 w51 ho hb hg hat; rw [← Ny378.out] at ho; replace HO_357001 := Aside0.mk (Kd.S_after (ok := (fun k_ => k_ ≠ gb361)) (by refine bN ?_; exact Kd.S_mono HO_357001.out (fun _ hk => ⟨hk.2, hk.1⟩)) hg hat); replace HO_357002 := Aside0.mk (Kd.S_over' (bN HO_357002.out) (Kd.R_typed (bN HO_362007.out)) (by decide) hg); replace BK352 := Aside0.mk (blk_grown (g := gb352) (o := .cells #[.int .i64 0, .slice none 0 0, .slice none 0 0, .slice none 0 0] 28 (0, 0)) (bw BK352.out) hg (Kd.R_ne HO_362007.out BK352.out (by decide))); replace BK356 := Aside0.mk (blk_grown (g := gb356) (o := .cells #[.int .i64 (wrap64 (1 + t357)), u357001, u357002, .slice none 0 0] 28 (0, 0)) (bw BK356.out) hg (Kd.R_ne HO_362007.out BK356.out (by decide))); replace BK361 := Aside0.mk (blk_grown (g := gb361) (o := .cells #[.int .u64 (IntKind.u64.wrap (wrap64 (257 + x7_1))), .int .u16 (IntKind.u16.wrap (wrap64 (4096 * t362))), .int .i64 ji22, .int .i64 (wrap64 (1 + t364)), .int .i64 ji21, .int .i64 (wrap64 (10 + t366)), .int .i64 t368, u362007] 51 (0, 0)) (bw BK361.out) hg (Kd.R_ne HO_362007.out BK361.out (by decide))); replace HI355 := Aside0.mk (IsS59.grown (bI HI355.out) hg (IsS59.own_ne HI355.out HO_362007.out (by decide))); replace HB := Aside0.mk (hb); have HO380 := Aside0.mk (ho); clear HO_362007; clear ho hb hg hat; obtain ⟨Ao52, co52, eo52⟩ := Kd.R_slice HO380.out; subst eo52; obtain ⟨hcz53_0, hcz53_1, hcz53_2, hcz53_3, hcz53_4, hcz53_5, hcz53_6, hcz53_7⟩ := cZ8 BK361.out; obtain ⟨hfz53_0, hfz53_1, hfz53_2, hfz53_3, hfz53_4, hfz53_5, hfz53_6, hfz53_7⟩ := fZ8 BK361.out) | (go_at_call 18; (with_reducible refine (treelineref24_At_by.calls g355 t353 x356001_2 256 t376 t377 w _ ?side1 ?side2 A44.out).mono ?_); (case side1 => exact bI HI355.out); (case side2 => exact bB); rintro e w46 ⟨rfl, hi, hb, hk⟩; replace HO_357001 := Aside0.mk (Kd.S_mono (Kd.S_keep (IsS59.apartS (show IsS59 w _ g355 t353 x356001_2 from by exact bI HI355.out) (bN HO_357001.out) (by decide)) hk (fun _ h => h.2)) (fun _ h => h.1)); replace HO_357002 := Aside0.mk (Kd.S_mono (Kd.S_keep (IsS59.apartS (show IsS59 w _ g355 t353 x356001_2 from by exact bI HI355.out) (bN HO_357002.out) (by decide)) hk (fun _ h => h.2)) (fun _ h => h.1)); replace HO_362007 := Aside0.mk (Kd.R_mono (Kd.R_keep (IsS59.apart (show IsS59 w _ g355 t353 x356001_2 from by exact bI HI355.out) (bN HO_362007.out) (by decide)) hk (fun _ h => h.2)) (fun _ h => h.1)); replace BK352 := Aside0.mk (KeepBut.blk hk (g' := gb352) (o := .cells #[.int .i64 0, .slice none 0 0, .slice none 0 0, .slice none 0 0] 28 (0, 0)) (bw BK352.out) NB352_355.out (by simp)); replace BK356 := Aside0.mk (KeepBut.blk hk (g' := gb356) (o := .cells #[.int .i64 (wrap64 (1 + t357)), u357001, u357002, .slice none 0 0] 28 (0, 0)) (bw BK356.out) NB356_355.out (by simp)); replace BK361 := Aside0.mk (KeepBut.blk hk (g' := gb361) (o := .cells #[.int .u64 (IntKind.u64.wrap (wrap64 (257 + x7_1))), .int .u16 (IntKind.u16.wrap (wrap64 (4096 * t362))), .int .i64 ji22, .int .i64 (wrap64 (1 + t364)), .int .i64 ji21, .int .i64 (wrap64 (10 + t366)), .int .i64 t368, u362007] 51 (0, 0)) (bw BK361.out) NB361_355.out (by simp)); replace HB := Aside0.mk (hb); replace HI355 := Aside0.mk (hi); (try clear hb); (try clear hb2); (try clear hk); (try clear hi); have hnb47 := NB361_352.out; have hnc47 := NB352_361.out; have hnb48 := NB361_356.out; have hnc48 := NB356_361.out; have hnb49 := NB361_355.out; have hnc49 := NB355_361.out; obtain ⟨hcz50_0, hcz50_1, hcz50_2, hcz50_3, hcz50_4, hcz50_5, hcz50_6, hcz50_7⟩ := cZ8 BK361.out; obtain ⟨hfz50_0, hfz50_1, hfz50_2, hfz50_3, hfz50_4, hfz50_5, hfz50_6, hfz50_7⟩ := fZ8 BK361.out))
   go_roundg k2
   case measure => have := HK1.out; have := HK2.out; omega
   case rel => exact ⟨(wrap64 (x11_2 + 1)), (t377), (y378), (.slice Ao52 y378.length co52), (by first | rfl | (simp; done) | (simp [*]; done)), H', ⟨by have := HK1.out; have := HK2.out; omega⟩, ⟨by refine bN ?_; exact Kd.S_mono (Kd.S_far (p := ⟨gb361, 7, none⟩) (Kd.S_mono HO_357001.out (fun k_ hk => (⟨hk, hk.1⟩ : _ ∧ k_ ≠ gb361))) (fun _ hk => hk.2) (.slice Ao52 y378.length co52)) (fun _ hk => ⟨hk.1.2, hk.1.1⟩)⟩, ⟨by refine bN ?_; exact Kd.S_mono (Kd.S_far (p := ⟨gb361, 7, none⟩) (Kd.S_types HO_357002.out BK361.out (by decide)) (fun _ hk => hk.2) (.slice Ao52 y378.length co52)) (fun _ hk => trivial)⟩, ⟨by refine bN ?_; exact Kd.R_mono (Kd.R_far (p := ⟨gb361, 7, none⟩) (Kd.R_types HO380.out BK361.out (by decide)) (fun _ hk => hk.2) (.slice Ao52 y378.length co52)) (fun _ hk => trivial)⟩, ⟨bw BK352.out⟩, ⟨bw BK356.out⟩, ⟨by refine bW ?_; refine blk_put (cs := #[.int .u64 (IntKind.u64.wrap (wrap64 (257 + x7_1))), .int .u16 (IntKind.u16.wrap (wrap64 (4096 * t362))), .int .i64 ji22, .int .i64 (wrap64 (1 + t364)), .int .i64 ji21, .int .i64 (wrap64 (10 + t366)), .int .i64 t368, u362007]) ?_ 7 _ rfl; exact bw BK361.out⟩, ⟨bI HI355.out⟩, ⟨bB⟩⟩
  rw [if_neg c43] at H
  have c43b0 : decide (x11_2 < (wrap64 (1 + t374))) = false := decide_eq_false c43
  clear c43
  have H' := Aside0.mk H
  clear H
  go_wp2
  go_loopg [13, 14] k2 (fun kq v13 v14 w' => ∃ (x13_3 : List Int) (x14_3 : Int) (x356001_3 : Int), v14 = .int .i64 x14_3 ∧ Aside0 (treelineref24_Read.l2 kq l0 (wrap64 (1 + t359)) x7_1 (wrap64 (1 + t374)) x13_3 x14_3 t353 x356001_3 (wrap64 (1 + t357)) x357001_1 x357002_1 (IntKind.u64.wrap (wrap64 (257 + x7_1))) (IntKind.u16.wrap (wrap64 (4096 * t362))) ji22 (wrap64 (1 + t364)) ji21 (wrap64 (10 + t366)) t368 x362007_2 = some (r1, r2, r3, r4, r5)) ∧ Aside0 (kq ≤ k2) ∧ Aside0 (Kd.R (Kd.int .i64) 3 w' w.heap.size (fun _ => True) v13 x13_3) ∧ Aside0 (Kd.S k51 51 w' w.heap.size (fun k_ => some k_ ≠ (u362007 : Value).ownBlock ∧ k_ ≠ gb361) u357001 x357001_1) ∧ Aside0 (Kd.S (Kd.slice 3 (Kd.int .i64)) 64 w' w.heap.size (fun k_ => some k_ ≠ (v13 : Value).ownBlock) u357002 x357002_1) ∧ Aside0 (Kd.R k63 63 w' w.heap.size (fun _ => True) u362007 x362007_2) ∧ Aside0 (w'.heap[gb352]? = some (.cells #[.int .i64 0, (.slice none 0 0), (.slice none 0 0), (.slice none 0 0)] 28 (0, 0))) ∧ Aside0 (w'.heap[gb356]? = some (.cells #[.int .i64 (wrap64 (1 + t357)), u357001, u357002, (.slice none 0 0)] 28 (0, 0))) ∧ Aside0 (w'.heap[gb361]? = some (.cells #[.int .u64 (IntKind.u64.wrap (wrap64 (257 + x7_1))), .int .u16 (IntKind.u16.wrap (wrap64 (4096 * t362))), .int .i64 ji22, .int .i64 (wrap64 (1 + t364)), .int .i64 ji21, .int .i64 (wrap64 (10 + t366)), .int .i64 t368, u362007] 51 (0, 0))) ∧ Aside0 (IsS59 w w' g355 t353 x356001_3) ∧ Aside0 (Below w.heap.size w w'))
  case atStart => exact ⟨(([] : List Int)), (0), (x356001_2), (by first | rfl | (simp; done) | (simp [*]; done)), H', ⟨Nat.le_refl _⟩, ⟨by first | exact Kd.R_nil _ _ _ _ _ | exact Kd.N_nil _ _ _ _ _ | exact Kd.V_nil _ _ _ _ _ | exact Kd.Q_nil _ _ _ _ _ | exact Kd.S_nil _ _ _ _ _⟩, ⟨bN HO_357001.out⟩, ⟨by refine bN ?_; exact Kd.S_mono HO_357002.out (fun _ hk => (by simp [Value.ownBlock]))⟩, ⟨bN HO_362007.out⟩, ⟨bw BK352.out⟩, ⟨bw BK356.out⟩, ⟨bw BK361.out⟩, ⟨bI HI355.out⟩, ⟨bB⟩⟩
  clear H'
  try clear p2
  try clear p6
  try clear c14b0
  try clear c43
  try clear c43b0
  try clear c45
  try clear p2
  try clear p6
  obtain ⟨x13_3, x14_3, x356001_3, rfl, HA, HK3, HO_13, HO_357001, HO_357002, HO_362007, BK352, BK356, BK361, HI355, HB⟩ := hrel
  cases gk with
  | zero => exact absurd HA.out (by simp [treelineref24_Read.l2])
  | succ k3 => ?_
  have H := HA.out
  clear HA
  simp only [treelineref24_Read.l2] at H
  by_cases c54 : x14_3 < (wrap64 (1 + t374))
  ·rw [if_pos c54] at H
   have c54b0 : decide (x14_3 < (wrap64 (1 + t374))) = true := decide_eq_true c54
   clear c54
   replace H := Option.bind_eq_some_iff.mp H
   obtain ⟨⟨t381, t382⟩, A550, H⟩ := H
   (try dsimp only at H)
   have A55 := Aside0.mk A550
   clear A550
   by_cases c56 : x13_3.length < 17592186044416
   rotate_left
   ·rw [if_neg c56] at H
    exact absurd H (by simp)
   rw [if_pos c56] at H
   have LMc56 := Aside0.mk c56
   clear c56
   obtain ⟨y383, hy383⟩ : ∃ y_ : List Int, y_ = (x13_3 ++ [t381]) := ⟨_, rfl⟩
   replace H : (treelineref24_Read.l2 k3 l0 (wrap64 (1 + t359)) x7_1 (wrap64 (1 + t374)) y383 (wrap64 (x14_3 + 1)) t353 t382 (wrap64 (1 + t357)) x357001_1 x357002_1 (IntKind.u64.wrap (wrap64 (257 + x7_1))) (IntKind.u16.wrap (wrap64 (4096 * t362))) ji22 (wrap64 (1 + t364)) ji21 (wrap64 (10 + t366)) t368 x362007_2) = some (r1, r2, r3, r4, r5) := by first | (rw [hy383]; with_reducible exact H) | (have H2_ := (Option.bind_some _ _).symm.trans H; rw [hy383]; with_reducible exact H2_) | (have H2_ := (Option.bind_some _ _).symm.trans H; with_reducible exact H2_) | with_reducible exact H | (rw [hy383]; exact H) | exact H
   have Ny383 := Aside0.mk hy383
   clear hy383
   have H' := Aside0.mk H
   clear H
   have hnb57 := NB356_352.out
   have hnc57 := NB352_356.out
   have hnb58 := NB356_361.out
   have hnc58 := NB361_356.out
   have hnb59 := NB356_355.out
   have hnc59 := NB355_356.out
   obtain ⟨hcz60_0, hcz60_1, hcz60_2, hcz60_3⟩ := cZ4 BK356.out
   obtain ⟨hfz60_0, hfz60_1, hfz60_2, hfz60_3⟩ := fZ4 BK356.out
   go_wp2_with (first | ((with_reducible refine gate_callee (f := 18) rfl ?_); refine gL (some 113) Tryd.func18 #[.pointer (some ⟨g355, 0, none⟩), .int .i64 (wrap64 (1 + t357))] ?_; (with_reducible refine (treelineref24_At_by.calls g355 t353 x356001_3 (wrap64 (1 + t357)) t381 t382 w _ ?side1 ?side2 A55.out).mono ?_); (case side1 => exact bI HI355.out); (case side2 => exact bB); rintro e w61 ⟨rfl, hi, hb, hk⟩; refine ⟨_, rfl, ?_⟩; replace HO_13 := Aside0.mk (Kd.R_mono (Kd.R_keep (IsS59.apart (show IsS59 w _ g355 t353 x356001_3 from by exact bI HI355.out) (bN HO_13.out) (by decide)) hk (fun _ h => h.2)) (fun _ h => h.1)); replace HO_357001 := Aside0.mk (Kd.S_mono (Kd.S_keep (IsS59.apartS (show IsS59 w _ g355 t353 x356001_3 from by exact bI HI355.out) (bN HO_357001.out) (by decide)) hk (fun _ h => h.2)) (fun _ h => h.1)); replace HO_357002 := Aside0.mk (Kd.S_mono (Kd.S_keep (IsS59.apartS (show IsS59 w _ g355 t353 x356001_3 from by exact bI HI355.out) (bN HO_357002.out) (by decide)) hk (fun _ h => h.2)) (fun _ h => h.1)); replace HO_362007 := Aside0.mk (Kd.R_mono (Kd.R_keep (IsS59.apart (show IsS59 w _ g355 t353 x356001_3 from by exact bI HI355.out) (bN HO_362007.out) (by decide)) hk (fun _ h => h.2)) (fun _ h => h.1)); replace BK352 := Aside0.mk (KeepBut.blk hk (g' := gb352) (o := .cells #[.int .i64 0, .slice none 0 0, .slice none 0 0, .slice none 0 0] 28 (0, 0)) (bw BK352.out) NB352_355.out (by simp)); replace BK356 := Aside0.mk (KeepBut.blk hk (g' := gb356) (o := .cells #[.int .i64 (wrap64 (1 + t357)), u357001, u357002, .slice none 0 0] 28 (0, 0)) (bw BK356.out) NB356_355.out (by simp)); replace BK361 := Aside0.mk (KeepBut.blk hk (g' := gb361) (o := .cells #[.int .u64 (IntKind.u64.wrap (wrap64 (257 + x7_1))), .int .u16 (IntKind.u16.wrap (wrap64 (4096 * t362))), .int .i64 ji22, .int .i64 (wrap64 (1 + t364)), .int .i64 ji21, .int .i64 (wrap64 (10 + t366)), .int .i64 t368, u362007] 51 (0, 0)) (bw BK361.out) NB361_355.out (by simp)); replace HB := Aside0.mk (hb); replace HI355 := Aside0.mk (hi); (try clear hb); (try clear hb2); (try clear hk); (try clear hi)) | ((with_reducible refine gate_builtin (b := .append) (xs := #[.tmp 109, .tmp 114]) rfl ?_); (try (refine gate_guard (by rfl) ?_; dsimp only)); at_builtin; refine Kd.R_append (Kd.int .i64) (w0 := w) w.heap.size rfl (.tmp 109) (.tmp 114) 64 3 (.int .i64 0) 8 rfl Tryd.underlying64 info3 rfl (by decide) (by omega) u13 x13_3 t381 [.int .i64 t381] (fun _ => True) (fun _ => False) rfl rfl ?aP (fun _ hk => hk.elim) ?aF ?aO ?aB ?aS ?aL ?_; (case aP => exact rfl); (case aB => exact bB); (case aF => exact (fun _ _ => trivial)); (case aO => exact (bN HO_13.out)); (case aS => exact (below_size bB)); (case aL => have := LMc56.out; omega); intro v384 w62 ho hb hg hat; rw [← Ny383.out] at ho; replace HO_357001 := Aside0.mk (Kd.S_over' (bN HO_357001.out) (Kd.R_typed (bN HO_13.out)) (by decide) hg); replace HO_357002 := Aside0.mk (Kd.S_after (ok := (fun _ => True)) (by refine bN ?_; exact Kd.S_mono HO_357002.out (fun _ hk => ⟨trivial, hk⟩)) hg hat); replace HO_362007 := Aside0.mk (Kd.R_over' (bN HO_362007.out) (Kd.R_typed (bN HO_13.out)) (by decide) hg); replace BK352 := Aside0.mk (blk_grown (g := gb352) (o := .cells #[.int .i64 0, .slice none 0 0, .slice none 0 0, .slice none 0 0] 28 (0, 0)) (bw BK352.out) hg (Kd.R_ne HO_13.out BK352.out (by decide))); replace BK356 := Aside0.mk (blk_grown (g := gb356) (o := .cells #[.int .i64 (wrap64 (1 + t357)), u357001, u357002, .slice none 0 0] 28 (0, 0)) (bw BK356.out) hg (Kd.R_ne HO_13.out BK356.out (by decide))); replace BK361 := Aside0.mk (blk_grown (g := gb361) (o := .cells #[.int .u64 (IntKind.u64.wrap (wrap64 (257 + x7_1))), .int .u16 (IntKind.u16.wrap (wrap64 (4096 * t362))), .int .i64 ji22, .int .i64 (wrap64 (1 + t364)), .int .i64 ji21, .int .i64 (wrap64 (10 + t366)), .int .i64 t368, u362007] 51 (0, 0)) (bw BK361.out) hg (Kd.R_ne HO_13.out BK361.out (by decide))); replace HI355 := Aside0.mk (IsS59.grown (bI HI355.out) hg (IsS59.own_ne HI355.out HO_13.out (by decide))); replace HB := Aside0.mk (hb); have HO385 := Aside0.mk (ho); clear HO_13; clear ho hb hg hat) | (go_at_call 18; (with_reducible refine (treelineref24_At_by.calls g355 t353 x356001_3 (wrap64 (1 + t357)) t381 t382 w _ ?side1 ?side2 A55.out).mono ?_); (case side1 => exact bI HI355.out); (case side2 => exact bB); rintro e w61 ⟨rfl, hi, hb, hk⟩; replace HO_13 := Aside0.mk (Kd.R_mono (Kd.R_keep (IsS59.apart (show IsS59 w _ g355 t353 x356001_3 from by exact bI HI355.out) (bN HO_13.out) (by decide)) hk (fun _ h => h.2)) (fun _ h => h.1)); replace HO_357001 := Aside0.mk (Kd.S_mono (Kd.S_keep (IsS59.apartS (show IsS59 w _ g355 t353 x356001_3 from by exact bI HI355.out) (bN HO_357001.out) (by decide)) hk (fun _ h => h.2)) (fun _ h => h.1)); replace HO_357002 := Aside0.mk (Kd.S_mono (Kd.S_keep (IsS59.apartS (show IsS59 w _ g355 t353 x356001_3 from by exact bI HI355.out) (bN HO_357002.out) (by decide)) hk (fun _ h => h.2)) (fun _ h => h.1)); replace HO_362007 := Aside0.mk (Kd.R_mono (Kd.R_keep (IsS59.apart (show IsS59 w _ g355 t353 x356001_3 from by exact bI HI355.out) (bN HO_362007.out) (by decide)) hk (fun _ h => h.2)) (fun _ h => h.1)); replace BK352 := Aside0.mk (KeepBut.blk hk (g' := gb352) (o := .cells #[.int .i64 0, .slice none 0 0, .slice none 0 0, .slice none 0 0] 28 (0, 0)) (bw BK352.out) NB352_355.out (by simp)); replace BK356 := Aside0.mk (KeepBut.blk hk (g' := gb356) (o := .cells #[.int .i64 (wrap64 (1 + t357)), u357001, u357002, .slice none 0 0] 28 (0, 0)) (bw BK356.out) NB356_355.out (by simp)); replace BK361 := Aside0.mk (KeepBut.blk hk (g' := gb361) (o := .cells #[.int .u64 (IntKind.u64.wrap (wrap64 (257 + x7_1))), .int .u16 (IntKind.u16.wrap (wrap64 (4096 * t362))), .int .i64 ji22, .int .i64 (wrap64 (1 + t364)), .int .i64 ji21, .int .i64 (wrap64 (10 + t366)), .int .i64 t368, u362007] 51 (0, 0)) (bw BK361.out) NB361_355.out (by simp)); replace HB := Aside0.mk (hb); replace HI355 := Aside0.mk (hi); (try clear hb); (try clear hb2); (try clear hk); (try clear hi)))
   go_roundg k3
   case measure => have := HK1.out; have := HK2.out; have := HK3.out; omega
   case rel => exact ⟨(y383), (wrap64 (x14_3 + 1)), (t382), (by first | rfl | (simp; done) | (simp [*]; done)), H', ⟨by have := HK1.out; have := HK2.out; have := HK3.out; omega⟩, ⟨bN HO385.out⟩, ⟨bN HO_357001.out⟩, ⟨by refine bN ?_; exact Kd.S_mono HO_357002.out (fun _ hk => hk.2)⟩, ⟨bN HO_362007.out⟩, ⟨bw BK352.out⟩, ⟨bw BK356.out⟩, ⟨bw BK361.out⟩, ⟨bI HI355.out⟩, ⟨bB⟩⟩
  rw [if_neg c54] at H
  have c54b0 : decide (x14_3 < (wrap64 (1 + t374))) = false := decide_eq_false c54
  clear c54
  by_cases c63 : x357001_1.length < 1759218604441
  rotate_left
  ·rw [if_neg c63] at H
   exact absurd H (by simp)
  rw [if_pos c63] at H
  have LMc63 := Aside0.mk c63
  clear c63
  obtain ⟨y386, hy386⟩ : ∃ y_ : List (S51), y_ = (x357001_1 ++ [(⟨(IntKind.u64.wrap (wrap64 (257 + x7_1))), (IntKind.u16.wrap (wrap64 (4096 * t362))), ji22, (wrap64 (1 + t364)), ji21, (wrap64 (10 + t366)), t368, x362007_2⟩ : S51)]) := ⟨_, rfl⟩
  replace H : (if x357002_1.length < 5864062014805 then (treelineref24_Read.l0 k3 l0 (wrap64 (1 + t359)) (wrap64 (x7_1 + 1)) t353 x356001_3 (wrap64 (1 + t357)) y386 (x357002_1 ++ [x13_3])) else (none)) = some (r1, r2, r3, r4, r5) := by first | (rw [hy386]; with_reducible exact H) | (have H2_ := (Option.bind_some _ _).symm.trans H; rw [hy386]; with_reducible exact H2_) | (have H2_ := (Option.bind_some _ _).symm.trans H; with_reducible exact H2_) | with_reducible exact H | (rw [hy386]; exact H) | exact H
  have Ny386 := Aside0.mk hy386
  clear hy386
  by_cases c64 : x357002_1.length < 5864062014805
  rotate_left
  ·rw [if_neg c64] at H
   exact absurd H (by simp)
  rw [if_pos c64] at H
  have LMc64 := Aside0.mk c64
  clear c64
  obtain ⟨y389, hy389⟩ : ∃ y_ : List (List Int), y_ = (x357002_1 ++ [x13_3]) := ⟨_, rfl⟩
  replace H : (treelineref24_Read.l0 k3 l0 (wrap64 (1 + t359)) (wrap64 (x7_1 + 1)) t353 x356001_3 (wrap64 (1 + t357)) y386 y389) = some (r1, r2, r3, r4, r5) := by first | (rw [hy389]; with_reducible exact H) | (have H2_ := (Option.bind_some _ _).symm.trans H; rw [hy389]; with_reducible exact H2_) | (have H2_ := (Option.bind_some _ _).symm.trans H; with_reducible exact H2_) | with_reducible exact H | (rw [hy389]; exact H) | exact H
  have Ny389 := Aside0.mk hy389
  clear hy389
  have H' := Aside0.mk H
  clear H
  have hnb65 := NB356_352.out
  have hnc65 := NB352_356.out
  have hnb66 := NB356_361.out
  have hnc66 := NB361_356.out
  have hnb67 := NB356_355.out
  have hnc67 := NB355_356.out
  obtain ⟨hcz68_0, hcz68_1, hcz68_2, hcz68_3⟩ := cZ4 BK356.out
  obtain ⟨hfz68_0, hfz68_1, hfz68_2, hfz68_3⟩ := fZ4 BK356.out
  have hnb69 := NB361_352.out
  have hnc69 := NB352_361.out
  have hnb70 := NB361_355.out
  have hnc70 := NB355_361.out
  obtain ⟨hcz71_0, hcz71_1, hcz71_2, hcz71_3, hcz71_4, hcz71_5, hcz71_6, hcz71_7⟩ := cZ8 BK361.out
  obtain ⟨hfz71_0, hfz71_1, hfz71_2, hfz71_3, hfz71_4, hfz71_5, hfz71_6, hfz71_7⟩ := fZ8 BK361.out
  obtain ⟨Ao73, co73, eo73⟩ := Kd.R_slice HO_362007.out
  subst eo73
  go_wp2_with (first | ((with_reducible refine gate_builtin (b := .append) (xs := #[.tmp 117, .tmp 119]) rfl ?_); (try (refine gate_guard (by rfl) ?_; dsimp only)); at_builtin; refine Kd.S_append k51 (w0 := w) w.heap.size rfl (.tmp 117) (.tmp 119) 24 51 (.agg #[(.int .u64 0), (.int .u16 0), (.int .i64 0), (.int .i64 0), (.int .i64 0), (.int .i64 0), (.int .i64 0), (.slice none 0 0)]) 80 rfl Tryd.underlying24 info51 rfl (by decide) (by omega) u357001 x357001_1 (⟨(IntKind.u64.wrap (wrap64 (257 + x7_1))), (IntKind.u16.wrap (wrap64 (4096 * t362))), ji22, (wrap64 (1 + t364)), ji21, (wrap64 (10 + t366)), t368, x362007_2⟩ : S51) [.int .u64 (IntKind.u64.wrap (wrap64 (257 + x7_1))), .int .u16 (IntKind.u16.wrap (wrap64 (4096 * t362))), .int .i64 ji22, .int .i64 (wrap64 (1 + t364)), .int .i64 ji21, .int .i64 (wrap64 (10 + t366)), .int .i64 t368, .slice Ao73 x362007_2.length co73] (fun k_ => k_ ≠ gb361) (fun k_ => some k_ = (.slice Ao73 x362007_2.length co73 : Value).ownBlock) rfl rfl ?aP (fun k_ hk_ => ((Kd.R_mono (ok' := fun k_ => ((fun k_ => k_ ≠ gb361)) k_ ∧ some k_ ≠ (u357001 : Value).ownBlock) (Kd.R_types (Kd.R_apart' (HO_362007.out) (Kd.S_typed HO_357001.out) (by decide)) BK361.out (by decide)) (fun k_ hk => ⟨hk.2, hk.1.2⟩))).1 k_ hk_.symm) ?aF ?aO ?aB ?aS ?aL ?_; (case aP => exact k51_mkM _ _ _ (⟨(IntKind.u64.wrap (wrap64 (257 + x7_1))), (IntKind.u16.wrap (wrap64 (4096 * t362))), ji22, (wrap64 (1 + t364)), ji21, (wrap64 (10 + t366)), t368, x362007_2⟩ : S51) (Kd.R_mono (Kd.R_tight rfl (Kd.R_mono (ok' := fun k_ => ((fun k_ => k_ ≠ gb361)) k_ ∧ some k_ ≠ (u357001 : Value).ownBlock) (Kd.R_types (Kd.R_apart' (HO_362007.out) (Kd.S_typed HO_357001.out) (by decide)) BK361.out (by decide)) (fun k_ hk => ⟨hk.2, hk.1.2⟩))) (fun _ h_ => h_))); (case aB => exact bB); (case aF => exact (fun k_ hk => Kd.freshB (g := gb361) (o := .cells #[.int .u64 (IntKind.u64.wrap (wrap64 (257 + x7_1))), .int .u16 (IntKind.u16.wrap (wrap64 (4096 * t362))), .int .i64 ji22, .int .i64 (wrap64 (1 + t364)), .int .i64 ji21, .int .i64 (wrap64 (10 + t366)), .int .i64 t368, .slice Ao73 x362007_2.length co73] 51 (0, 0)) (bw BK361.out) k_ hk)); (case aO => exact (by refine bN ?_; exact Kd.S_mono HO_357001.out (fun k_ hk => ⟨hk.2, fun e_ => hk.1 e_⟩))); (case aS => exact (below_size bB)); (case aL => have := LMc63.out; omega); intro v387 w72 ho hb hg hat; rw [← Ny386.out] at ho; replace HO_13 := Aside0.mk (Kd.R_over' (bN HO_13.out) (Kd.S_typed (bN HO_357001.out)) (by decide) hg); replace HO_357002 := Aside0.mk (Kd.S_over' (bN HO_357002.out) (Kd.S_typed (bN HO_357001.out)) (by decide) hg); replace BK352 := Aside0.mk (blk_grown (g := gb352) (o := .cells #[.int .i64 0, .slice none 0 0, .slice none 0 0, .slice none 0 0] 28 (0, 0)) (bw BK352.out) hg (Kd.S_ne HO_357001.out BK352.out (by decide))); replace BK356 := Aside0.mk (blk_grown (g := gb356) (o := .cells #[.int .i64 (wrap64 (1 + t357)), u357001, u357002, .slice none 0 0] 28 (0, 0)) (bw BK356.out) hg (Kd.S_ne HO_357001.out BK356.out (by decide))); replace BK361 := Aside0.mk (blk_grown (g := gb361) (o := .cells #[.int .u64 (IntKind.u64.wrap (wrap64 (257 + x7_1))), .int .u16 (IntKind.u16.wrap (wrap64 (4096 * t362))), .int .i64 ji22, .int .i64 (wrap64 (1 + t364)), .int .i64 ji21, .int .i64 (wrap64 (10 + t366)), .int .i64 t368, .slice Ao73 x362007_2.length co73] 51 (0, 0)) (bw BK361.out) hg (Kd.S_away HO_357001.out (fun _ hk => hk.2))); replace HI355 := Aside0.mk (IsS59.grown (bI HI355.out) hg (IsS59.own_neS HI355.out HO_357001.out (by decide))); replace HB := Aside0.mk (hb); have HO388 := Aside0.mk (ho); clear HO_357001 HO_362007; clear ho hb hg hat; obtain ⟨Ao74, co74, eo74⟩ := Kd.S_slice HO388.out; subst eo74; obtain ⟨hcz75_0, hcz75_1, hcz75_2, hcz75_3⟩ := cZ4 BK356.out; obtain ⟨hfz75_0, hfz75_1, hfz75_2, hfz75_3⟩ := fZ4 BK356.out) | ((with_reducible refine gate_store (t := 24) (p := 121) rfl ?_); refine store_event (t := 24) (p := 121) (v := ?vo_w76) (w1 := (w72.setCell ⟨gb356, 1, none⟩ (.slice Ao74 y386.length co74))) ?hg ?ho ?hn ?hr ?_; (case ho => rfl); (case hg => rfl); (case hn => rfl); (case hr => first | (go_simp; done) | (go_simp; rfl)); intro w76 hw; replace HO_13 : Aside0 (Kd.R (Kd.int .i64) 3 w76 w.heap.size (fun _ => True) u13 x13_3) := ⟨(by rw [hw]; exact (by refine bN ?_; exact Kd.R_mono (Kd.R_far (p := ⟨gb356, 1, none⟩) (Kd.R_types HO_13.out BK356.out (by decide)) (fun _ hk => hk.2) (.slice Ao74 y386.length co74)) (fun _ hk => trivial)))⟩; replace HO_357002 : Aside0 (Kd.S (Kd.slice 3 (Kd.int .i64)) 64 w76 w.heap.size (fun k_ => some k_ ≠ (u13 : Value).ownBlock) u357002 x357002_1) := ⟨(by rw [hw]; exact (by refine bN ?_; exact Kd.S_mono (Kd.S_far (p := ⟨gb356, 1, none⟩) (Kd.S_types HO_357002.out BK356.out (by decide)) (fun _ hk => hk.2) (.slice Ao74 y386.length co74)) (fun _ hk => hk.1)))⟩; replace HO388 : Aside0 (Kd.S k51 51 w76 w.heap.size (fun k_ => k_ ≠ gb361) (.slice Ao74 y386.length co74) y386) := ⟨(by rw [hw]; exact (by refine bN ?_; exact Kd.S_mono (Kd.S_far (p := ⟨gb356, 1, none⟩) (Kd.S_types HO388.out BK356.out (by decide)) (fun _ hk => hk.2) (.slice Ao74 y386.length co74)) (fun _ hk => hk.1)))⟩; replace BK352 : Aside0 (w76.heap[gb352]? = some (.cells #[.int .i64 0, .slice none 0 0, .slice none 0 0, .slice none 0 0] 28 (0, 0))) := ⟨(by rw [hw]; exact (bw BK352.out))⟩; replace BK356 : Aside0 (w76.heap[gb356]? = some (.cells #[.int .i64 (wrap64 (1 + t357)), .slice Ao74 y386.length co74, u357002, .slice none 0 0] 28 (0, 0))) := ⟨(by rw [hw]; exact (by refine bW ?_; refine blk_put (cs := #[.int .i64 (wrap64 (1 + t357)), u357001, u357002, .slice none 0 0]) ?_ 1 _ rfl; exact bw BK356.out))⟩; replace BK361 : Aside0 (w76.heap[gb361]? = some (.cells #[.int .u64 (IntKind.u64.wrap (wrap64 (257 + x7_1))), .int .u16 (IntKind.u16.wrap (wrap64 (4096 * t362))), .int .i64 ji22, .int .i64 (wrap64 (1 + t364)), .int .i64 ji21, .int .i64 (wrap64 (10 + t366)), .int .i64 t368, .slice Ao73 x362007_2.length co73] 51 (0, 0))) := ⟨(by rw [hw]; exact (bw BK361.out))⟩; replace HI355 : Aside0 (IsS59 w w76 g355 t353 x356001_3) := ⟨(by rw [hw]; exact (bI HI355.out))⟩; replace HB : Aside0 (Below w.heap.size w w76) := ⟨(by rw [hw]; exact bB)⟩; clear hw; obtain ⟨hcz77_0, hcz77_1, hcz77_2, hcz77_3⟩ := cZ4 BK356.out; obtain ⟨hfz77_0, hfz77_1, hfz77_2, hfz77_3⟩ := fZ4 BK356.out; obtain ⟨Ao79, co79, eo79⟩ := Kd.R_slice HO_13.out; subst eo79) | ((with_reducible refine gate_builtin (b := .append) (xs := #[.tmp 123, .tmp 125]) rfl ?_); (try (refine gate_guard (by rfl) ?_; dsimp only)); at_builtin; refine Kd.S_append (Kd.slice 3 (Kd.int .i64)) (w0 := w) w.heap.size rfl (.tmp 123) (.tmp 125) 25 64 (.slice none 0 0) 24 rfl Tryd.underlying25 info64 rfl (by decide) (by omega) u357002 x357002_1 x13_3 [.slice Ao79 x13_3.length co79] (fun _ => True) (fun k_ => some k_ = (.slice Ao79 x13_3.length co79 : Value).ownBlock) rfl rfl ?aP (fun k_ hk_ => ((Kd.R_mono (ok' := fun k_ => ((fun _ => True)) k_ ∧ some k_ ≠ (u357002 : Value).ownBlock) (Kd.R_apart' (HO_13.out) (Kd.S_typed HO_357002.out) (by decide)) (fun k_ hk => ⟨trivial, hk.2⟩))).1 k_ hk_.symm) ?aF ?aO ?aB ?aS ?aL ?_; (case aP => exact Kd.M_row (Kd.R_mono (Kd.R_tight rfl (Kd.R_mono (ok' := fun k_ => ((fun _ => True)) k_ ∧ some k_ ≠ (u357002 : Value).ownBlock) (Kd.R_apart' (HO_13.out) (Kd.S_typed HO_357002.out) (by decide)) (fun k_ hk => ⟨trivial, hk.2⟩))) (fun _ h_ => h_))); (case aB => exact bB); (case aF => exact (fun _ _ => trivial)); (case aO => exact (by refine bN ?_; exact Kd.S_mono HO_357002.out (fun k_ hk => ⟨trivial, fun e_ => hk e_⟩))); (case aS => exact (below_size bB)); (case aL => have := LMc64.out; omega); intro v390 w78 ho hb hg hat; rw [← Ny389.out] at ho; replace BK352 := Aside0.mk (blk_grown (g := gb352) (o := .cells #[.int .i64 0, .slice none 0 0, .slice none 0 0, .slice none 0 0] 28 (0, 0)) (bw BK352.out) hg (Kd.S_ne HO_357002.out BK352.out (by decide))); replace BK356 := Aside0.mk (blk_grown (g := gb356) (o := .cells #[.int .i64 (wrap64 (1 + t357)), .slice Ao74 y386.length co74, u357002, .slice none 0 0] 28 (0, 0)) (bw BK356.out) hg (Kd.S_ne HO_357002.out BK356.out (by decide))); replace BK361 := Aside0.mk (blk_grown (g := gb361) (o := .cells #[.int .u64 (IntKind.u64.wrap (wrap64 (257 + x7_1))), .int .u16 (IntKind.u16.wrap (wrap64 (4096 * t362))), .int .i64 ji22, .int .i64 (wrap64 (1 + t364)), .int .i64 ji21, .int .i64 (wrap64 (10 + t366)), .int .i64 t368, .slice Ao73 x362007_2.length co73] 51 (0, 0)) (bw BK361.out) hg (Kd.S_ne HO_357002.out BK361.out (by decide))); replace HI355 := Aside0.mk (IsS59.grown (bI HI355.out) hg (IsS59.own_neS HI355.out HO_357002.out (by decide))); replace HO388 := Aside0.mk (Kd.S_over' (bN HO388.out) (Kd.S_typed (bN HO_357002.out)) (by decide) hg); replace HB := Aside0.mk (hb); have HO391 := Aside0.mk (ho); clear HO_357002 HO_13; clear ho hb hg hat; obtain ⟨Ao80, co80, eo80⟩ := Kd.S_slice HO391.out; subst eo80; obtain ⟨hcz81_0, hcz81_1, hcz81_2, hcz81_3⟩ := cZ4 BK356.out; obtain ⟨hfz81_0, hfz81_1, hfz81_2, hfz81_3⟩ := fZ4 BK356.out))
  go_roundg k3
  case measure => have := HK1.out; have := HK2.out; have := HK3.out; omega
  case rel => exact ⟨(wrap64 (x7_1 + 1)), (x356001_3), (y386), (y389), (.slice Ao74 y386.length co74), (.slice Ao80 y389.length co80), (by first | rfl | (simp; done) | (simp [*]; done)), H', ⟨by have := HK1.out; have := HK2.out; have := HK3.out; omega⟩, ⟨by refine bN ?_; exact Kd.S_mono (Kd.S_far (p := ⟨gb356, 2, none⟩) (Kd.S_types HO388.out BK356.out (by decide)) (fun _ hk => hk.2) (.slice Ao80 y389.length co80)) (fun _ hk => trivial)⟩, ⟨by refine bN ?_; exact Kd.S_mono (Kd.S_far (p := ⟨gb356, 2, none⟩) (Kd.S_types HO391.out BK356.out (by decide)) (fun _ hk => hk.2) (.slice Ao80 y389.length co80)) (fun _ hk => trivial)⟩, ⟨bw BK352.out⟩, ⟨by refine bW ?_; refine blk_put (cs := #[.int .i64 (wrap64 (1 + t357)), .slice Ao74 y386.length co74, u357002, .slice none 0 0]) ?_ 2 _ rfl; exact bw BK356.out⟩, ⟨bI HI355.out⟩, ⟨bB⟩⟩
 rw [if_neg c14] at H
 have c14b0 : decide (x7_1 < (wrap64 (1 + t359))) = false := decide_eq_false c14
 clear c14
 replace H := Option.bind_eq_some_iff.mp H
 obtain ⟨⟨t392, t393⟩, A820, H⟩ := H
 (try dsimp only at H)
 have A82 := Aside0.mk A820
 clear A820
 have H' := Aside0.mk H
 clear H
 go_wp2_with (first | ((with_reducible refine gate_callee (f := 18) rfl ?_); refine gL (some 129) Tryd.func18 #[.pointer (some ⟨g355, 0, none⟩), .int .i64 4] ?_; (with_reducible refine (treelineref24_At_by.calls g355 t353 x356001_1 4 t392 t393 w _ ?side1 ?side2 A82.out).mono ?_); (case side1 => exact bI HI355.out); (case side2 => exact bB); rintro e w83 ⟨rfl, hi, hb, hk⟩; refine ⟨_, rfl, ?_⟩; replace HO_357001 := Aside0.mk (Kd.S_mono (Kd.S_keep (IsS59.apartS (show IsS59 w _ g355 t353 x356001_1 from by exact bI HI355.out) (bN HO_357001.out) (by decide)) hk (fun _ h => h.2)) (fun _ h => h.1)); replace HO_357002 := Aside0.mk (Kd.S_mono (Kd.S_keep (IsS59.apartS (show IsS59 w _ g355 t353 x356001_1 from by exact bI HI355.out) (bN HO_357002.out) (by decide)) hk (fun _ h => h.2)) (fun _ h => h.1)); replace BK352 := Aside0.mk (KeepBut.blk hk (g' := gb352) (o := .cells #[.int .i64 0, .slice none 0 0, .slice none 0 0, .slice none 0 0] 28 (0, 0)) (bw BK352.out) NB352_355.out (by simp)); replace BK356 := Aside0.mk (KeepBut.blk hk (g' := gb356) (o := .cells #[.int .i64 (wrap64 (1 + t357)), u357001, u357002, .slice none 0 0] 28 (0, 0)) (bw BK356.out) NB356_355.out (by simp)); replace HB := Aside0.mk (hb); replace HI355 := Aside0.mk (hi); (try clear hb); (try clear hb2); (try clear hk); (try clear hi)) | (go_at_call 18; (with_reducible refine (treelineref24_At_by.calls g355 t353 x356001_1 4 t392 t393 w _ ?side1 ?side2 A82.out).mono ?_); (case side1 => exact bI HI355.out); (case side2 => exact bB); rintro e w83 ⟨rfl, hi, hb, hk⟩; replace HO_357001 := Aside0.mk (Kd.S_mono (Kd.S_keep (IsS59.apartS (show IsS59 w _ g355 t353 x356001_1 from by exact bI HI355.out) (bN HO_357001.out) (by decide)) hk (fun _ h => h.2)) (fun _ h => h.1)); replace HO_357002 := Aside0.mk (Kd.S_mono (Kd.S_keep (IsS59.apartS (show IsS59 w _ g355 t353 x356001_1 from by exact bI HI355.out) (bN HO_357002.out) (by decide)) hk (fun _ h => h.2)) (fun _ h => h.1)); replace BK352 := Aside0.mk (KeepBut.blk hk (g' := gb352) (o := .cells #[.int .i64 0, .slice none 0 0, .slice none 0 0, .slice none 0 0] 28 (0, 0)) (bw BK352.out) NB352_355.out (by simp)); replace BK356 := Aside0.mk (KeepBut.blk hk (g' := gb356) (o := .cells #[.int .i64 (wrap64 (1 + t357)), u357001, u357002, .slice none 0 0] 28 (0, 0)) (bw BK356.out) NB356_355.out (by simp)); replace HB := Aside0.mk (hb); replace HI355 := Aside0.mk (hi); (try clear hb); (try clear hb2); (try clear hk); (try clear hi)))
 go_loopg [16] k1 (fun kq v16 w' => ∃ (x16_2 : Int) (x356001_2 : Int) (x357003_2 : List (S66)) (u357003 : Value), v16 = .int .i64 x16_2 ∧ Aside0 (treelineref24_Read.l3 kq l0 (wrap64 (1 + t359)) t392 x16_2 t353 x356001_2 (wrap64 (1 + t357)) x357001_1 x357002_1 x357003_2 = some (r1, r2, r3, r4, r5)) ∧ Aside0 (kq ≤ k1) ∧ Aside0 (Kd.S k51 51 w' w.heap.size (fun _ => True) u357001 x357001_1) ∧ Aside0 (Kd.S (Kd.slice 3 (Kd.int .i64)) 64 w' w.heap.size (fun _ => True) u357002 x357002_1) ∧ Aside0 (Kd.R k66 66 w' w.heap.size (fun _ => True) u357003 x357003_2) ∧ Aside0 (w'.heap[gb352]? = some (.cells #[.int .i64 0, (.slice none 0 0), (.slice none 0 0), (.slice none 0 0)] 28 (0, 0))) ∧ Aside0 (w'.heap[gb356]? = some (.cells #[.int .i64 (wrap64 (1 + t357)), u357001, u357002, u357003] 28 (0, 0))) ∧ Aside0 (IsS59 w w' g355 t353 x356001_2) ∧ Aside0 (Below w.heap.size w w'))
 case atStart => exact ⟨(0), (t393), (([] : List (S66))), (.slice none 0 0), (by first | rfl | (simp; done) | (simp [*]; done)), H', ⟨Nat.le_refl _⟩, ⟨bN HO_357001.out⟩, ⟨bN HO_357002.out⟩, ⟨by first | exact Kd.R_nil _ _ _ _ _ | exact Kd.N_nil _ _ _ _ _ | exact Kd.V_nil _ _ _ _ _ | exact Kd.Q_nil _ _ _ _ _ | exact Kd.S_nil _ _ _ _ _⟩, ⟨bw BK352.out⟩, ⟨bw BK356.out⟩, ⟨bI HI355.out⟩, ⟨bB⟩⟩
 clear H'
 try clear p2
 try clear p6
 try clear c14
 try clear c14b0
 try clear c43
 try clear c43b0
 try clear c54b0
 try clear p64
 try clear p2
 try clear p6
 obtain ⟨x16_2, x356001_2, x357003_2, u357003, rfl, HA, HK2, HO_357001, HO_357002, HO_357003, BK352, BK356, HI355, HB⟩ := hrel
 cases gk with
 | zero => exact absurd HA.out (by simp [treelineref24_Read.l3])
 | succ k2 => ?_
 have H := HA.out
 clear HA
 simp only [treelineref24_Read.l3] at H
 by_cases c84 : x16_2 < t392
 ·rw [if_pos c84] at H
  have c84b0 : decide (x16_2 < t392) = true := decide_eq_true c84
  clear c84
  replace H := Option.bind_eq_some_iff.mp H
  obtain ⟨⟨t394, t395⟩, A850, H⟩ := H
  (try dsimp only at H)
  have A85 := Aside0.mk A850
  clear A850
  by_cases c86 : x357003_2.length < 8796093022208
  rotate_left
  ·rw [if_neg c86] at H
   exact absurd H (by simp)
  rw [if_pos c86] at H
  have LMc86 := Aside0.mk c86
  clear c86
  obtain ⟨y396, hy396⟩ : ∃ y_ : List (S66), y_ = (x357003_2 ++ [(⟨IntKind.u64.wrap (wrap64 (513 + x16_2)), t394⟩ : S66)]) := ⟨_, rfl⟩
  replace H : (treelineref24_Read.l3 k2 l0 (wrap64 (1 + t359)) t392 (wrap64 (x16_2 + 1)) t353 t395 (wrap64 (1 + t357)) x357001_1 x357002_1 y396) = some (r1, r2, r3, r4, r5) := by first | (rw [hy396]; with_reducible exact H) | (have H2_ := (Option.bind_some _ _).symm.trans H; rw [hy396]; with_reducible exact H2_) | (have H2_ := (Option.bind_some _ _).symm.trans H; with_reducible exact H2_) | with_reducible exact H | (rw [hy396]; exact H) | exact H
  have Ny396 := Aside0.mk hy396
  clear hy396
  have H' := Aside0.mk H
  clear H
  try go_wp2
  replace HO_357001 := Aside0.mk (Kd.S_drew HO_357001.out)
  replace HO_357002 := Aside0.mk (Kd.S_drew HO_357002.out)
  replace HO_357003 := Aside0.mk (Kd.R_drew HO_357003.out)
  replace BK352 := Aside0.mk (blk_drew BK352.out)
  replace BK356 := Aside0.mk (blk_drew BK356.out)
  replace HI355 := Aside0.mk (IsS59.drew HI355.out)
  replace HB := Aside0.mk (below_drew1 HB.out)
  refine start_ (n := 14) (S := fun w' => w'.cell? ⟨gb356, 0, none⟩ = some (.int .i64 (wrap64 (1 + t357))) ∧ w'.cell? ⟨gb356, 1, none⟩ = some (u357001) ∧ w'.cell? ⟨gb356, 2, none⟩ = some (u357002) ∧ w'.cell? ⟨gb356, 3, none⟩ = some (u357003)) (ds := [13]) #[false, false, false, false, false, false, false, false, false, false, false, false, false, false] (by kernel_rfl) rfl rfl ⟨(blk_cell BK356.out 0).trans rfl, (blk_cell BK356.out 1).trans rfl, (blk_cell BK356.out 2).trans rfl, (blk_cell BK356.out 3).trans rfl⟩ (fun hHeld => ?_); refine with_tabW treelineref24_Read.tab33 treelineref24_Read.bits33 (fun HT_ HW_ => ?_)
  generalize wr.drew = w87 at HO_357001 HO_357002 HO_357003 BK352 BK356 HI355 HB hHeld ⊢
  refine pS 0 135 HT_ ?_
  refine pS 2 137 HT_ ?_
  refine pS 3 138 HT_ ?_
  refine pS 4 139 HT_ ?_
  refine pS 5 140 HT_ ?_
  refine pS 6 141 HT_ ?_
  refine tS 1 136 HT_ HW_ hHeld ?_
  refine tS 7 142 HT_ HW_ hHeld ?_
  refine one_ (i := 8) (N := some 143) #[true, true, true, true, true, true, true, true, true, false, false, false, false, false] rfl rfl (one_of HT_.out (by kernel_rfl)) (by decide) (fun K hK => ?_)
  refine goes_ Tryd.func18 (by kernel_rfl) rfl #[.pointer (some ⟨g355, 0, none⟩), .int .i64 (wrap64 (1 + t357))] (by rfl) rfl rfl (by (try simp only [List.map_toArray, List.map_cons, List.map_nil]); first | done | rfl | (simp only [List.length_drop, List.length_take]; rfl)) ?_
  with_reducible refine (treelineref24_At_by.calls g355 t353 x356001_2 (wrap64 (1 + t357)) t394 t395 w _ ?side1 ?side2 A85.out).mono ?_
  (case side1 => exact bI HI355.out)
  (case side2 => exact bB)
  rintro e w88 ⟨rfl, hi, hb, hk⟩
  refine ⟨_, rfl, ?_⟩
  replace HO_357001 := Aside0.mk (Kd.S_mono (Kd.S_keep (IsS59.apartS (show IsS59 w _ g355 t353 x356001_2 from by exact bI HI355.out) (bN HO_357001.out) (by decide)) hk (fun _ h => h.2)) (fun _ h => h.1))
  replace HO_357002 := Aside0.mk (Kd.S_mono (Kd.S_keep (IsS59.apartS (show IsS59 w _ g355 t353 x356001_2 from by exact bI HI355.out) (bN HO_357002.out) (by decide)) hk (fun _ h => h.2)) (fun _ h => h.1))
  replace HO_357003 := Aside0.mk (Kd.R_mono (Kd.R_keep (IsS59.apart (show IsS59 w _ g355 t353 x356001_2 from by exact bI HI355.out) (bN HO_357003.out) (by decide)) hk (fun _ h => h.2)) (fun _ h => h.1))
  replace BK352 := Aside0.mk (KeepBut.blk hk (g' := gb352) (o := .cells #[.int .i64 0, .slice none 0 0, .slice none 0 0, .slice none 0 0] 28 (0, 0)) (bw BK352.out) NB352_355.out (by simp))
  replace BK356 := Aside0.mk (KeepBut.blk hk (g' := gb356) (o := .cells #[.int .i64 (wrap64 (1 + t357)), u357001, u357002, u357003] 28 (0, 0)) (bw BK356.out) NB356_355.out (by simp))
  replace HB := Aside0.mk (hb)
  replace HI355 := Aside0.mk (hi)
  (try clear hb)
  (try clear hb2)
  (try clear hk)
  (try clear hi)
  refine hK.out _ _ ⟨(blk_cell BK356.out 0).trans rfl, (blk_cell BK356.out 1).trans rfl, (blk_cell BK356.out 2).trans rfl, (blk_cell BK356.out 3).trans rfl⟩ (fun hHeld => ?_)
  clear hK K
  refine nS 143 ?_
  refine pS 9 144 HT_ ?_
  refine one_ (i := 10) (N := some 145) #[true, true, true, true, true, true, true, true, true, true, true, false, false, false] rfl rfl (one_of HT_.out (by kernel_rfl)) (by decide) (fun K hK => ?_)
  refine value_ (w1 := ?_) (v := ?_) (by rfl) rfl ?_ ?_
  rotate_left 2
  ·go_simp
   constructor
   ·rfl
   rfl
  refine hK.out _ _ ⟨(blk_cell (blk_alloc BK356.out _) 0).trans rfl, (blk_cell (blk_alloc BK356.out _) 1).trans rfl, (blk_cell (blk_alloc BK356.out _) 2).trans rfl, (blk_cell (blk_alloc BK356.out _) 3).trans rfl⟩ (fun hHeld => ?_)
  clear hK K
  refine nS 145 ?_
  refine one_ (i := 11) (N := some 146) #[true, true, true, true, true, true, true, true, true, true, true, true, false, false] rfl rfl (one_of HT_.out (by kernel_rfl)) (by decide) (fun K hK => ?_)
  refine Kd.R_append_step k66 (w0 := w) w.heap.size (by rfl) (.tmp 136) (.tmp 145) 26 66 (.agg #[(.int .u64 0), (.int .i64 0)]) 16 rfl Tryd.underlying26 info66 rfl (by decide) (by omega) u357003 x357003_2 (⟨IntKind.u64.wrap (wrap64 (513 + x16_2)), t394⟩ : S66) [.int .u64 (IntKind.u64.wrap (wrap64 (513 + x16_2))), .int .i64 t394] (fun _ => True) (fun _ => False) rfl rfl ?aP (fun _ hk => hk.elim) ?aF ?aO ?aB ?aS ?aL ?_
  (case aP => exact k66_mkM _ _ _ (⟨IntKind.u64.wrap (wrap64 (513 + x16_2)), t394⟩ : S66))
  (case aB => exact bB)
  (case aF => exact (fun _ _ => trivial))
  (case aO => exact (bN HO_357003.out))
  (case aS => exact (below_size bB))
  (case aL => have := LMc86.out; omega)
  intro v397 w89 ho hb hg hat
  rw [← Ny396.out] at ho
  replace HO_357001 := Aside0.mk (Kd.S_over' (bN HO_357001.out) (Kd.R_typed (bN HO_357003.out)) (by decide) hg)
  replace HO_357002 := Aside0.mk (Kd.S_over' (bN HO_357002.out) (Kd.R_typed (bN HO_357003.out)) (by decide) hg)
  replace BK352 := Aside0.mk (blk_grown (g := gb352) (o := .cells #[.int .i64 0, .slice none 0 0, .slice none 0 0, .slice none 0 0] 28 (0, 0)) (bw BK352.out) hg (Kd.R_ne HO_357003.out BK352.out (by decide)))
  replace BK356 := Aside0.mk (blk_grown (g := gb356) (o := .cells #[.int .i64 (wrap64 (1 + t357)), u357001, u357002, u357003] 28 (0, 0)) (bw BK356.out) hg (Kd.R_ne HO_357003.out BK356.out (by decide)))
  replace HI355 := Aside0.mk (IsS59.grown (bI HI355.out) hg (IsS59.own_ne HI355.out HO_357003.out (by decide)))
  replace HB := Aside0.mk (hb)
  have HO398 := Aside0.mk (ho)
  clear HO_357003
  clear ho hb hg hat
  obtain ⟨Ao90, co90, eo90⟩ := Kd.R_slice HO398.out
  (first | subst eo90 | (injection eo90 with f1_ f2_ f3_; have f4_ := f1_.symm; have f5_ := f3_.symm; clear f1_ f2_ f3_; subst f4_; subst f5_))
  refine hK.out _ _ ⟨(blk_cell BK356.out 0).trans rfl, (blk_cell BK356.out 1).trans rfl, (blk_cell BK356.out 2).trans rfl, (blk_cell BK356.out 3).trans rfl⟩ (fun hHeld => ?_)
  clear hK K
  refine nS 146 ?_
  refine pS 12 147 HT_ ?_
  refine last_ (i := 13) (N := none) #[true, true, true, true, true, true, true, true, true, true, true, true, true, true] rfl rfl (one_of HT_.out (by kernel_rfl)) (by decide) (fun K hK => ?_)
  have hs91 : w89.cell? ⟨gb356, 3, none⟩ = some (u357003) := (blk_cell BK356.out 3).trans rfl
  have hfs91 := blk_frozen BK356.out 3
  have hns91_0 := NB352_356.out
  have hms91_0 := NB356_352.out
  refine skip_ (w1 := ?_) (by rfl) rfl ?_ ?_
  rotate_left
  ·go_simp
   rfl
  refine hK.out _ _ ?_
  clear hK K
  refine done_ (done_of HT_.out (by kernel_rfl)) ?_
  try go_wp2
  go_roundg k2
  case measure => have := HK1.out; have := HK2.out; omega
  case rel => exact ⟨(wrap64 (x16_2 + 1)), (t395), (y396), (.slice Ao90 y396.length co90), (by first | rfl | (simp; done) | (simp [*]; done)), H', ⟨by have := HK1.out; have := HK2.out; omega⟩, ⟨by refine bN ?_; exact Kd.S_mono (Kd.S_far (p := ⟨gb356, 3, none⟩) (Kd.S_types HO_357001.out BK356.out (by decide)) (fun _ hk => hk.2) (.slice Ao90 y396.length co90)) (fun _ hk => trivial)⟩, ⟨by refine bN ?_; exact Kd.S_mono (Kd.S_far (p := ⟨gb356, 3, none⟩) (Kd.S_types HO_357002.out BK356.out (by decide)) (fun _ hk => hk.2) (.slice Ao90 y396.length co90)) (fun _ hk => trivial)⟩, ⟨by refine bN ?_; exact Kd.R_mono (Kd.R_far (p := ⟨gb356, 3, none⟩) (Kd.R_types HO398.out BK356.out (by decide)) (fun _ hk => hk.2) (.slice Ao90 y396.length co90)) (fun _ hk => trivial)⟩, ⟨bw BK352.out⟩, ⟨by refine bW ?_; refine blk_put (cs := #[.int .i64 (wrap64 (1 + t357)), u357001, u357002, u357003]) ?_ 3 _ rfl; exact bw BK356.out⟩, ⟨bI HI355.out⟩, ⟨bB⟩⟩
 rw [if_neg c84] at H
 have c84b0 : decide (x16_2 < t392) = false := decide_eq_false c84
 clear c84
 have H' := Aside0.mk H
 clear H
 go_wp2
 go_loopg [17] k2 (fun kq v17 w' => ∃ (x17_3 : List (S39)) (x356001_3 : Int), Aside0 (treelineref24_Read.l4 kq l0 (wrap64 (1 + t359)) x17_3 t353 x356001_3 (wrap64 (1 + t357)) x357001_1 x357002_1 x357003_2 = some (r1, r2, r3, r4, r5)) ∧ Aside0 (kq ≤ k2) ∧ Aside0 (Kd.S k39 39 w' w.heap.size (fun _ => True) v17 x17_3) ∧ Aside0 (Kd.S k51 51 w' w.heap.size (fun _ => True) u357001 x357001_1) ∧ Aside0 (Kd.S (Kd.slice 3 (Kd.int .i64)) 64 w' w.heap.size (fun _ => True) u357002 x357002_1) ∧ Aside0 (Kd.R k66 66 w' w.heap.size (fun _ => True) u357003 x357003_2) ∧ Aside0 (w'.heap[gb352]? = some (.cells #[.int .i64 0, (.slice none 0 0), (.slice none 0 0), (.slice none 0 0)] 28 (0, 0))) ∧ Aside0 (w'.heap[gb356]? = some (.cells #[.int .i64 (wrap64 (1 + t357)), u357001, u357002, u357003] 28 (0, 0))) ∧ Aside0 (IsS59 w w' g355 t353 x356001_3) ∧ Aside0 (Below w.heap.size w w'))
 case atStart => exact ⟨(([] : List (S39))), (x356001_2), H', ⟨Nat.le_refl _⟩, ⟨by first | exact Kd.S_nil _ _ _ _ _ | exact Kd.N_nil _ _ _ _ _ | exact Kd.V_nil _ _ _ _ _ | exact Kd.Q_nil _ _ _ _ _ | exact Kd.R_nil _ _ _ _ _⟩, ⟨bN HO_357001.out⟩, ⟨bN HO_357002.out⟩, ⟨bN HO_357003.out⟩, ⟨bw BK352.out⟩, ⟨bw BK356.out⟩, ⟨bI HI355.out⟩, ⟨bB⟩⟩
 rename_i zc1_1 zd1_1 zd1_2 zd1_3 zd1_4 zc1_2 _ zc1_3 zc1_4 zc1_5 zc1_6 zc1_7 zc1_8 zd1_5 zd1_6 zd1_7 zd1_8 zd1_9 zd1_10 zc1_9 zc1_10 zc1_11 zc1_12 zc1_13 zc1_14 zc1_15 zc1_16 zc1_17 zc1_18 zc1_19 zc1_20 zc1_21 zc1_22
 clear zd1_1 zd1_2 zd1_3 zd1_4 zd1_5 zd1_6 zd1_7 zd1_8 zd1_9 zd1_10
 revert k A0 c0 l0 r1 r2 r3 r4 r5 w hu28 hu51 hu63 hu66 hu39 hu43 HR0 HC0 t353 t354 A2 t357 t358 A3 t359 t360 A4 zc1_1 gb352 GW352 GE352 g355 NB355_352 NB352_355 gb356 GW356 GE356 NB352_356 NB356_352 NB355_356 NB356_355 hnb8 hnc8 hnb9 hnc9 zc1_2 u8 u9 u10 u11 u12 u13 u14 u40 u41 u42 u43 u44 u45 u46 u47 u48 u49 u50 u51 u52 u53 u54 u55 u56 u57 u58 u59 u60 u61 u62 u63 u64 u65 u66 u67 u68 u69 u70 u71 u72 u73 u74 u75 u76 u77 u78 u79 u80 u81 u82 u83 u84 u85 u86 u87 u88 u89 u90 u91 u92 u93 u94 u95 u96 u97 u98 u99 u100 u101 u102 u103 u104 u105 u106 u107 u108 u109 u110 u111 u112 u113 u114 u115 u116 u117 u118 u119 u120 u121 u122 u123 u124 u125 u126 u127 zc1_3 zc1_4 zc1_5 x7_1 x356001_1 x357001_1 x357002_1 u357001 u357002 k1 zc1_6 HK1 t392 t393 A82 zc1_7 zc1_8 zc1_9 zc1_10 u133 u134 u135 u136 u137 u138 u139 u140 u141 u142 u143 u144 u145 u146 u147 zc1_11 zc1_12 zc1_13 x16_2 x356001_2 x357003_2 u357003 HO_357001 HO_357002 HO_357003 BK352 BK356 HI355 HB k2 zc1_14 HK2 c84b0 H' zc1_15 zc1_16 zc1_17 zc1_18 gk wr u17 u18 u19 u20 u21 u22 u23 u24 u25 u148 u149 u150 u151 u152 u153 u154 u155 u156 u157 u158 u159 u160 u161 u162 u163 u164 u165 u166 u167 u168 u169 u170 u171 u172 u173 u174 u175 u176 u177 u178 u179 u180 u181 u182 u183 u184 u185 u186 u187 u188 u189 u190 u191 u192 u193 u194 u195 u196 u197 u198 u199 u200 u201 u202 u203 u204 u205 u206 u207 u208 u209 u210 u211 u212 u213 u214 u215 u216 u217 u218 u219 u220 u221 u222 u223 u224 u225 u226 u227 u228 u229 u230 u231 u232 u233 u234 u235 u236 u237 u238 u239 u240 u241 u242 u243 u244 u245 u246 u247 u248 u249 u250 u251 u252 u253 u254 u255 u256 u257 u258 u259 u260 u261 u262 u263 u264 u265 u266 u267 u268 u269 u270 u271 u272 u273 u274 u275 u276 u277 u278 u279 hrel zc1_19 zc1_20 zc1_21 zc1_22
 exact hPart_.out⟩
end Go.Proofs.YtiikllgppmmiaaaDoor.OScriptReads
