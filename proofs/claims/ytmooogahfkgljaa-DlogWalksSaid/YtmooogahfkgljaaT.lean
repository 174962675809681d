/- Closed facts about this seat's program: its types' cells, its fields' places, its functions' bodies: each by Lean's kernel. Written by a program (closed.py). -/
import Derived.Test.YtmooogahfkgljaaProg
import Derived.Test.YtmooogahfkgljaaK25
set_option linter.unusedSimpArgs false
namespace Go.Proofs.Ytmooogahfkgljaa.T
open Go Go.Proofs.Ytmooogahfkgljaa.K
theorem un3 : Try.prog.underlying 3 = some (.int .i64) := by kernel_rfl
theorem un4 : Try.prog.underlying 4 = some (.bool) := by kernel_rfl
theorem un5 : Try.prog.underlying 5 = some (.int .u8) := by kernel_rfl
theorem un9 : Try.prog.underlying 9 = some (.string) := by kernel_rfl
theorem un22 : Try.prog.underlying 22 = some (.slice 5) := by kernel_rfl
theorem un26 : Try.prog.underlying 26 = some (.slice 34) := by kernel_rfl
theorem un30 : Try.prog.underlying 30 = some (.pointer 103) := by kernel_rfl
theorem un37 : Try.prog.underlying 37 = some (.pointer 106) := by kernel_rfl
theorem un39 : Try.prog.underlying 39 = some (.pointer 108) := by kernel_rfl
theorem un54 : Try.prog.underlying 54 = some (.slice 3) := by kernel_rfl
theorem un57 : Try.prog.underlying 57 = some (.slice 9) := by kernel_rfl
theorem un60 : Try.prog.underlying 60 = some (.slice 42) := by kernel_rfl
theorem un64 : Try.prog.underlying 64 = some (.slice 54) := by kernel_rfl
theorem un67 : Try.prog.underlying 67 = some (.pointer 119) := by kernel_rfl
theorem un68 : Try.prog.underlying 68 = some (.slice 91) := by kernel_rfl
theorem un73 : Try.prog.underlying 73 = some (.array 4 72) := by kernel_rfl
theorem un76 : Try.prog.underlying 76 = some (.int .i64) := by kernel_rfl
theorem un89 : Try.prog.underlying 89 = some (.array 3 3) := by kernel_rfl
theorem un95 : Try.prog.underlying 95 = some (.slice 98) := by kernel_rfl
theorem un101 : Try.prog.underlying 101 = some (.int .u32) := by kernel_rfl
theorem un111 : Try.prog.underlying 111 = some (.int .u64) := by kernel_rfl
theorem fl3 : flat Try.prog 3 = true := by kernel_rfl
theorem sz3 : (Try.prog.info? 3).map (·.size) = some 1 := by kernel_rfl
theorem fl4 : flat Try.prog 4 = true := by kernel_rfl
theorem sz4 : (Try.prog.info? 4).map (·.size) = some 1 := by kernel_rfl
theorem fl5 : flat Try.prog 5 = true := by kernel_rfl
theorem sz5 : (Try.prog.info? 5).map (·.size) = some 1 := by kernel_rfl
theorem fl9 : flat Try.prog 9 = true := by kernel_rfl
theorem sz9 : (Try.prog.info? 9).map (·.size) = some 1 := by kernel_rfl
theorem fl26 : flat Try.prog 26 = true := by kernel_rfl
theorem sz26 : (Try.prog.info? 26).map (·.size) = some 1 := by kernel_rfl
theorem ag34 : aggr Try.prog 34 = true := by kernel_rfl
theorem sz34 : (Try.prog.info? 34).map (·.size) = some 4 := by kernel_rfl
theorem ag42 : aggr Try.prog 42 = true := by kernel_rfl
theorem sz42 : (Try.prog.info? 42).map (·.size) = some 2 := by kernel_rfl
theorem fl54 : flat Try.prog 54 = true := by kernel_rfl
theorem sz54 : (Try.prog.info? 54).map (·.size) = some 1 := by kernel_rfl
theorem fl57 : flat Try.prog 57 = true := by kernel_rfl
theorem sz57 : (Try.prog.info? 57).map (·.size) = some 1 := by kernel_rfl
theorem fl60 : flat Try.prog 60 = true := by kernel_rfl
theorem sz60 : (Try.prog.info? 60).map (·.size) = some 1 := by kernel_rfl
theorem fl67 : flat Try.prog 67 = true := by kernel_rfl
theorem sz67 : (Try.prog.info? 67).map (·.size) = some 1 := by kernel_rfl
theorem fl68 : flat Try.prog 68 = true := by kernel_rfl
theorem sz68 : (Try.prog.info? 68).map (·.size) = some 1 := by kernel_rfl
theorem ag70 : aggr Try.prog 70 = true := by kernel_rfl
theorem sz70 : (Try.prog.info? 70).map (·.size) = some 3 := by kernel_rfl
theorem ag72 : aggr Try.prog 72 = true := by kernel_rfl
theorem sz72 : (Try.prog.info? 72).map (·.size) = some 4 := by kernel_rfl
theorem ag73 : aggr Try.prog 73 = true := by kernel_rfl
theorem sz73 : (Try.prog.info? 73).map (·.size) = some 16 := by kernel_rfl
theorem ag81 : aggr Try.prog 81 = true := by kernel_rfl
theorem sz81 : (Try.prog.info? 81).map (·.size) = some 3 := by kernel_rfl
theorem fl87 : flat Try.prog 87 = true := by kernel_rfl
theorem sz87 : (Try.prog.info? 87).map (·.size) = some 1 := by kernel_rfl
theorem ag89 : aggr Try.prog 89 = true := by kernel_rfl
theorem sz89 : (Try.prog.info? 89).map (·.size) = some 3 := by kernel_rfl
theorem ag91 : aggr Try.prog 91 = true := by kernel_rfl
theorem sz91 : (Try.prog.info? 91).map (·.size) = some 2 := by kernel_rfl
theorem ag98 : aggr Try.prog 98 = true := by kernel_rfl
theorem sz98 : (Try.prog.info? 98).map (·.size) = some 5 := by kernel_rfl
theorem el3 : elemK Try.prog 3 = some (some (.int .i64 0), 1, 8) := by kernel_rfl
theorem el5 : elemK Try.prog 5 = some (some (.int .u8 0), 1, 1) := by kernel_rfl
theorem el9 : elemK Try.prog 9 = some (some (.string ⟨#[]⟩), 1, 16) := by kernel_rfl
theorem el34 : elemK Try.prog 34 = some (some (.agg #[.int .i64 0, .bool false, .int .i64 0, .int .i64 0]), 4, 32) := by kernel_rfl
theorem el42 : elemK Try.prog 42 = some (some (.agg #[.int .i64 0, .string ⟨#[]⟩]), 2, 24) := by kernel_rfl
theorem el54 : elemK Try.prog 54 = some (some (.slice none 0 0), 1, 24) := by kernel_rfl
theorem el72 : elemK Try.prog 72 = some (some (.agg #[.pointer none, .int .i64 0, .int .i64 0, .slice none 0 0]), 4, 48) := by kernel_rfl
theorem el91 : elemK Try.prog 91 = some (some (.agg #[.int .i64 0, .int .i64 0]), 2, 16) := by kernel_rfl
theorem el98 : elemK Try.prog 98 = some (some (.agg #[.int .i64 0, .int .i64 0, .int .i64 0, .int .i64 0, .int .i64 0]), 5, 40) := by kernel_rfl
theorem zv3 : (Try.prog.info? 3).bind (·.zero) = some (.int .i64 0) := by kernel_rfl
theorem zv4 : (Try.prog.info? 4).bind (·.zero) = some (.bool false) := by kernel_rfl
theorem zv34 : (Try.prog.info? 34).bind (·.zero) = some (.agg #[.int .i64 0, .bool false, .int .i64 0, .int .i64 0]) := by kernel_rfl
theorem zv42 : (Try.prog.info? 42).bind (·.zero) = some (.agg #[.int .i64 0, .string ⟨#[]⟩]) := by kernel_rfl
theorem zv54 : (Try.prog.info? 54).bind (·.zero) = some (.slice none 0 0) := by kernel_rfl
theorem zv73 : (Try.prog.info? 73).bind (·.zero) = some (.agg #[.pointer none, .int .i64 0, .int .i64 0, .slice none 0 0, .pointer none, .int .i64 0, .int .i64 0, .slice none 0 0, .pointer none, .int .i64 0, .int .i64 0, .slice none 0 0, .pointer none, .int .i64 0, .int .i64 0, .slice none 0 0]) := by kernel_rfl
theorem zv81 : (Try.prog.info? 81).bind (·.zero) = some (.agg #[.bool false, .int .i64 0, .int .i64 0]) := by kernel_rfl
theorem zv89 : (Try.prog.info? 89).bind (·.zero) = some (.agg #[.int .i64 0, .int .i64 0, .int .i64 0]) := by kernel_rfl
theorem zv91 : (Try.prog.info? 91).bind (·.zero) = some (.agg #[.int .i64 0, .int .i64 0]) := by kernel_rfl
theorem fo28_0 : fieldOf Try.prog 28 0 = some (0, some 1) := by kernel_rfl
theorem fo28_1 : fieldOf Try.prog 28 1 = some (1, some 1) := by kernel_rfl
theorem fo28_2 : fieldOf Try.prog 28 2 = some (2, some 1) := by kernel_rfl
theorem fo28_3 : fieldOf Try.prog 28 3 = some (3, some 1) := by kernel_rfl
theorem fo28_4 : fieldOf Try.prog 28 4 = some (4, some 1) := by kernel_rfl
theorem fo34_0 : fieldOf Try.prog 34 0 = some (0, some 1) := by kernel_rfl
theorem fo34_1 : fieldOf Try.prog 34 1 = some (1, some 1) := by kernel_rfl
theorem fo34_2 : fieldOf Try.prog 34 2 = some (2, some 1) := by kernel_rfl
theorem fo34_3 : fieldOf Try.prog 34 3 = some (3, some 1) := by kernel_rfl
theorem fo70_0 : fieldOf Try.prog 70 0 = some (0, some 1) := by kernel_rfl
theorem fo70_1 : fieldOf Try.prog 70 1 = some (1, some 1) := by kernel_rfl
theorem fo70_2 : fieldOf Try.prog 70 2 = some (2, some 1) := by kernel_rfl
theorem fo72_0 : fieldOf Try.prog 72 0 = some (0, some 1) := by kernel_rfl
theorem fo72_1 : fieldOf Try.prog 72 1 = some (1, some 3) := by kernel_rfl
theorem fo81_0 : fieldOf Try.prog 81 0 = some (0, some 1) := by kernel_rfl
theorem fo81_1 : fieldOf Try.prog 81 1 = some (1, some 1) := by kernel_rfl
theorem fo81_2 : fieldOf Try.prog 81 2 = some (2, some 1) := by kernel_rfl
theorem fo91_0 : fieldOf Try.prog 91 0 = some (0, some 1) := by kernel_rfl
theorem fo91_1 : fieldOf Try.prog 91 1 = some (1, some 1) := by kernel_rfl
theorem fo98_0 : fieldOf Try.prog 98 0 = some (0, some 1) := by kernel_rfl
theorem fo98_1 : fieldOf Try.prog 98 1 = some (1, some 1) := by kernel_rfl
theorem fo98_2 : fieldOf Try.prog 98 2 = some (2, some 1) := by kernel_rfl
theorem fo98_3 : fieldOf Try.prog 98 3 = some (3, some 1) := by kernel_rfl
theorem fo98_4 : fieldOf Try.prog 98 4 = some (4, some 1) := by kernel_rfl
theorem fo103_0 : fieldOf Try.prog 103 0 = some (0, some 1) := by kernel_rfl
theorem fo103_1 : fieldOf Try.prog 103 1 = some (1, some 1) := by kernel_rfl
theorem fo103_2 : fieldOf Try.prog 103 2 = some (2, some 1) := by kernel_rfl
theorem fo106_0 : fieldOf Try.prog 106 0 = some (0, some 1) := by kernel_rfl
theorem fo106_1 : fieldOf Try.prog 106 1 = some (1, some 1) := by kernel_rfl
theorem fo106_2 : fieldOf Try.prog 106 2 = some (2, some 1) := by kernel_rfl
theorem fo108_0 : fieldOf Try.prog 108 0 = some (0, some 1) := by kernel_rfl
theorem fo108_1 : fieldOf Try.prog 108 1 = some (1, some 1) := by kernel_rfl
theorem fo108_2 : fieldOf Try.prog 108 2 = some (2, some 1) := by kernel_rfl
theorem fo110_0 : fieldOf Try.prog 110 0 = some (0, some 1) := by kernel_rfl
theorem fo110_1 : fieldOf Try.prog 110 1 = some (1, some 1) := by kernel_rfl
theorem fo110_2 : fieldOf Try.prog 110 2 = some (2, some 1) := by kernel_rfl
theorem fo110_3 : fieldOf Try.prog 110 3 = some (3, some 1) := by kernel_rfl
theorem fo119_0 : fieldOf Try.prog 119 0 = some (0, some 1) := by kernel_rfl
theorem fo119_1 : fieldOf Try.prog 119 1 = some (1, some 1) := by kernel_rfl
theorem bd34_0 {x0 : Int} : ∀ w, (Instr.build 34 #[(0, .int .i64 x0)]).run Try.prog w = .ok (.agg #[.int .i64 x0, .bool false, .int .i64 0, .int .i64 0]) w := fun w => by kernel_rfl
theorem bd34_0_2_3 {x0 : Int} {x2 : Int} {x3 : Int} : ∀ w, (Instr.build 34 #[(0, .int .i64 x0), (2, .int .i64 x2), (3, .int .i64 x3)]).run Try.prog w = .ok (.agg #[.int .i64 x0, .bool false, .int .i64 x2, .int .i64 x3]) w := fun w => by kernel_rfl
theorem bd42_  : ∀ w, (Instr.build 42 #[]).run Try.prog w = .ok (.agg #[.int .i64 0, .string ⟨#[]⟩]) w := fun w => by kernel_rfl
theorem bd42_0_1 {x0 : Int} {x1 : ByteArray} : ∀ w, (Instr.build 42 #[(0, .int .i64 x0), (1, .string x1)]).run Try.prog w = .ok (.agg #[.int .i64 x0, .string x1]) w := fun w => by kernel_rfl
theorem bd70_0_1 {x0 : Int} {x1 : Int} : ∀ w, (Instr.build 70 #[(0, .int .i64 x0), (1, .int .i64 x1)]).run Try.prog w = .ok (.agg #[.int .i64 x0, .int .i64 x1, .slice none 0 0]) w := fun w => by kernel_rfl
theorem bd72_0_1 {x0 : Option Addr} {x1_0 : Int} {x1_1 : Int} {x1_2 : Option Addr} {x1_2n x1_2c : Nat} : ∀ w, (Instr.build 72 #[(0, .pointer x0), (1, .agg #[.int .i64 x1_0, .int .i64 x1_1, .slice x1_2 x1_2n x1_2c])]).run Try.prog w = .ok (.agg #[.pointer x0, .int .i64 x1_0, .int .i64 x1_1, .slice x1_2 x1_2n x1_2c]) w := fun w => by kernel_rfl
theorem bd81_  : ∀ w, (Instr.build 81 #[]).run Try.prog w = .ok (.agg #[.bool false, .int .i64 0, .int .i64 0]) w := fun w => by kernel_rfl
theorem bd81_0_1_2 {x0 : Bool} {x1 : Int} {x2 : Int} : ∀ w, (Instr.build 81 #[(0, .bool x0), (1, .int .i64 x1), (2, .int .i64 x2)]).run Try.prog w = .ok (.agg #[.bool x0, .int .i64 x1, .int .i64 x2]) w := fun w => by kernel_rfl
theorem bd81_0_2 {x0 : Bool} {x2 : Int} : ∀ w, (Instr.build 81 #[(0, .bool x0), (2, .int .i64 x2)]).run Try.prog w = .ok (.agg #[.bool x0, .int .i64 0, .int .i64 x2]) w := fun w => by kernel_rfl
theorem bd81_1_2 {x1 : Int} {x2 : Int} : ∀ w, (Instr.build 81 #[(1, .int .i64 x1), (2, .int .i64 x2)]).run Try.prog w = .ok (.agg #[.bool false, .int .i64 x1, .int .i64 x2]) w := fun w => by kernel_rfl
theorem bd89_  : ∀ w, (Instr.build 89 #[]).run Try.prog w = .ok (.agg #[.int .i64 0, .int .i64 0, .int .i64 0]) w := fun w => by kernel_rfl
theorem bd91_0_1 {x0 : Int} {x1 : Int} : ∀ w, (Instr.build 91 #[(0, .int .i64 x0), (1, .int .i64 x1)]).run Try.prog w = .ok (.agg #[.int .i64 x0, .int .i64 x1]) w := fun w => by kernel_rfl
theorem bd103_0_1 {x0 : Int} {x1 : Int} : ∀ w, (Instr.build 103 #[(0, .int .i64 x0), (1, .int .i64 x1)]).run Try.prog w = .ok (.agg #[.int .i64 x0, .int .i64 x1, .slice none 0 0]) w := fun w => by kernel_rfl
theorem bd106_0_1 {x0 : Int} {x1 : Int} : ∀ w, (Instr.build 106 #[(0, .int .i64 x0), (1, .int .i64 x1)]).run Try.prog w = .ok (.agg #[.int .i64 x0, .int .i64 x1, .slice none 0 0]) w := fun w => by kernel_rfl
theorem bd108_0_1 {x0 : Int} {x1 : Int} : ∀ w, (Instr.build 108 #[(0, .int .i64 x0), (1, .int .i64 x1)]).run Try.prog w = .ok (.agg #[.int .i64 x0, .int .i64 x1, .slice none 0 0]) w := fun w => by kernel_rfl
theorem bd110_0_1 {x0 : Int} {x1 : Int} : ∀ w, (Instr.build 110 #[(0, .int .i64 x0), (1, .int .i64 x1)]).run Try.prog w = .ok (.agg #[.int .i64 x0, .int .i64 x1, .int .i64 0, .slice none 0 0]) w := fun w => by kernel_rfl
theorem bd119_0_1 {x0 : Int} {x1 : Option Addr} {x1n x1c : Nat} : ∀ w, (Instr.build 119 #[(0, .int .i64 x0), (1, .slice x1 x1n x1c)]).run Try.prog w = .ok (.agg #[.int .i64 x0, .slice x1 x1n x1c]) w := fun w => by kernel_rfl
theorem eg42 : Try.prog.eqGuardType Try.prog.depth 42 = false := by kernel_rfl
theorem eq42 {x_0 : Int} {x_1 : ByteArray} {y_0 : Int} {y_1 : ByteArray} : eqv Try.prog 20 42 (.agg #[.int .i64 x_0, .string x_1]) (.agg #[.int .i64 y_0, .string y_1]) = some (decide (x_0 = y_0 ∧ x_1 = y_1)) := by
  rw [show eqv Try.prog 20 42 (.agg #[.int .i64 x_0, .string x_1]) (.agg #[.int .i64 y_0, .string y_1]) = some ((x_0 == y_0) && (x_1 == y_1)) from by kernel_rfl]
  congr 1
  rw [Bool.eq_iff_iff]
  simp only [Bool.and_eq_true, beq_iff_eq, ba_beq, decide_eq_true_eq, and_assoc]
theorem eg81 : Try.prog.eqGuardType Try.prog.depth 81 = false := by kernel_rfl
theorem eq81 {x_0 : Bool} {x_1 : Int} {x_2 : Int} {y_0 : Bool} {y_1 : Int} {y_2 : Int} : eqv Try.prog 20 81 (.agg #[.bool x_0, .int .i64 x_1, .int .i64 x_2]) (.agg #[.bool y_0, .int .i64 y_1, .int .i64 y_2]) = some (decide (x_0 = y_0 ∧ x_1 = y_1 ∧ x_2 = y_2)) := by
  rw [show eqv Try.prog 20 81 (.agg #[.bool x_0, .int .i64 x_1, .int .i64 x_2]) (.agg #[.bool y_0, .int .i64 y_1, .int .i64 y_2]) = some ((x_0 == y_0) && ((x_1 == y_1) && (x_2 == y_2))) from by kernel_rfl]
  congr 1
  rw [Bool.eq_iff_iff]
  simp only [Bool.and_eq_true, beq_iff_eq, ba_beq, decide_eq_true_eq, and_assoc]
theorem uf87 : isFunc Try.prog 87 = true := by kernel_rfl
theorem ci9 : concr Try.prog 9 = true := by kernel_rfl
theorem en2 : enters Try.prog 2 = true := by kernel_rfl
theorem en3 : enters Try.prog 3 = true := by kernel_rfl
theorem en4 : enters Try.prog 4 = true := by kernel_rfl
theorem en5 : enters Try.prog 5 = true := by kernel_rfl
theorem en6 : enters Try.prog 6 = true := by kernel_rfl
theorem en7 : enters Try.prog 7 = true := by kernel_rfl
theorem en8 : enters Try.prog 8 = true := by kernel_rfl
theorem en9 : enters Try.prog 9 = true := by kernel_rfl
theorem en10 : enters Try.prog 10 = true := by kernel_rfl
theorem en11 : enters Try.prog 11 = true := by kernel_rfl
theorem en12 : enters Try.prog 12 = true := by kernel_rfl
theorem en13 : enters Try.prog 13 = true := by kernel_rfl
theorem en14 : enters Try.prog 14 = true := by kernel_rfl
theorem en15 : enters Try.prog 15 = true := by kernel_rfl
theorem en16 : enters Try.prog 16 = true := by kernel_rfl
theorem en17 : enters Try.prog 17 = true := by kernel_rfl
theorem en18 : enters Try.prog 18 = true := by kernel_rfl
theorem en19 : enters Try.prog 19 = true := by kernel_rfl
theorem en20 : enters Try.prog 20 = true := by kernel_rfl
theorem en21 : enters Try.prog 21 = true := by kernel_rfl
theorem en22 : enters Try.prog 22 = true := by kernel_rfl
theorem en23 : enters Try.prog 23 = true := by kernel_rfl
theorem en24 : enters Try.prog 24 = true := by kernel_rfl
theorem en25 : enters Try.prog 25 = true := by kernel_rfl
theorem en26 : enters Try.prog 26 = true := by kernel_rfl
theorem en27 : enters Try.prog 27 = true := by kernel_rfl
theorem en28 : enters Try.prog 28 = true := by kernel_rfl
theorem en29 : enters Try.prog 29 = true := by kernel_rfl
theorem en30 : enters Try.prog 30 = true := by kernel_rfl
theorem en31 : enters Try.prog 31 = true := by kernel_rfl
theorem en32 : enters Try.prog 32 = true := by kernel_rfl
theorem en33 : enters Try.prog 33 = true := by kernel_rfl
theorem en34 : enters Try.prog 34 = true := by kernel_rfl
theorem en35 : enters Try.prog 35 = true := by kernel_rfl
theorem en36 : enters Try.prog 36 = true := by kernel_rfl
theorem en37 : enters Try.prog 37 = true := by kernel_rfl
theorem en38 : enters Try.prog 38 = true := by kernel_rfl
theorem en39 : enters Try.prog 39 = true := by kernel_rfl
theorem en40 : enters Try.prog 40 = true := by kernel_rfl
theorem en41 : enters Try.prog 41 = true := by kernel_rfl
theorem en42 : enters Try.prog 42 = true := by kernel_rfl
theorem en43 : enters Try.prog 43 = true := by kernel_rfl
theorem en44 : enters Try.prog 44 = true := by kernel_rfl
theorem en45 : enters Try.prog 45 = true := by kernel_rfl
theorem en46 : enters Try.prog 46 = true := by kernel_rfl
theorem en47 : enters Try.prog 47 = true := by kernel_rfl
theorem en48 : enters Try.prog 48 = true := by kernel_rfl
theorem en49 : enters Try.prog 49 = true := by kernel_rfl
theorem en50 : enters Try.prog 50 = true := by kernel_rfl
theorem en51 : enters Try.prog 51 = true := by kernel_rfl
theorem en52 : enters Try.prog 52 = true := by kernel_rfl
theorem en53 : enters Try.prog 53 = true := by kernel_rfl
theorem en54 : enters Try.prog 54 = true := by kernel_rfl
theorem en55 : enters Try.prog 55 = true := by kernel_rfl
theorem en56 : enters Try.prog 56 = true := by kernel_rfl
theorem en57 : enters Try.prog 57 = true := by kernel_rfl
theorem en58 : enters Try.prog 58 = true := by kernel_rfl
theorem en59 : enters Try.prog 59 = true := by kernel_rfl
theorem en60 : enters Try.prog 60 = true := by kernel_rfl
theorem en61 : enters Try.prog 61 = true := by kernel_rfl
theorem en62 : enters Try.prog 62 = true := by kernel_rfl
theorem en63 : enters Try.prog 63 = true := by kernel_rfl
theorem en64 : enters Try.prog 64 = true := by kernel_rfl
theorem en65 : enters Try.prog 65 = true := by kernel_rfl
theorem en66 : enters Try.prog 66 = true := by kernel_rfl
theorem en67 : enters Try.prog 67 = true := by kernel_rfl
theorem en68 : enters Try.prog 68 = true := by kernel_rfl
theorem en69 : enters Try.prog 69 = true := by kernel_rfl
theorem en70 : enters Try.prog 70 = true := by kernel_rfl
theorem en71 : enters Try.prog 71 = true := by kernel_rfl
theorem en72 : enters Try.prog 72 = true := by kernel_rfl
theorem en73 : enters Try.prog 73 = true := by kernel_rfl
theorem en74 : enters Try.prog 74 = true := by kernel_rfl
theorem en75 : enters Try.prog 75 = true := by kernel_rfl
theorem en76 : enters Try.prog 76 = true := by kernel_rfl
theorem en77 : enters Try.prog 77 = true := by kernel_rfl
theorem en78 : enters Try.prog 78 = true := by kernel_rfl
theorem en79 : enters Try.prog 79 = true := by kernel_rfl
theorem en80 : enters Try.prog 80 = true := by kernel_rfl
end Go.Proofs.Ytmooogahfkgljaa.T
