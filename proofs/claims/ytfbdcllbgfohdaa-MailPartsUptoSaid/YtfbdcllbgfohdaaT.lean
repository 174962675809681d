/- Closed facts about this seat's program: its types' cells, its fields' places, its functions' bodies: each by Lean's kernel. Written by a program (closed.py). -/
import Derived.Test.YtfbdcllbgfohdaaProg
import Derived.Test.YtfbdcllbgfohdaaK25
set_option linter.unusedSimpArgs false
namespace Go.Proofs.Ytfbdcllbgfohdaa.T
open Go Go.Proofs.Ytfbdcllbgfohdaa.K
theorem un3 : Try.prog.underlying 3 = some (.int .i64) := by kernel_rfl
theorem un4 : Try.prog.underlying 4 = some (.bool) := by kernel_rfl
theorem un5 : Try.prog.underlying 5 = some (.int .u8) := by kernel_rfl
theorem un9 : Try.prog.underlying 9 = some (.string) := by kernel_rfl
theorem un22 : Try.prog.underlying 22 = some (.slice 49) := by kernel_rfl
theorem un25 : Try.prog.underlying 25 = some (.int .i64) := by kernel_rfl
theorem un32 : Try.prog.underlying 32 = some (.slice 3) := by kernel_rfl
theorem un34 : Try.prog.underlying 34 = some (.slice 5) := by kernel_rfl
theorem un50 : Try.prog.underlying 50 = some (.slice 34) := by kernel_rfl
theorem un60 : Try.prog.underlying 60 = some (.slice 98) := by kernel_rfl
theorem un61 : Try.prog.underlying 61 = some (.slice 32) := by kernel_rfl
theorem un62 : Try.prog.underlying 62 = some (.slice 104) := by kernel_rfl
theorem un63 : Try.prog.underlying 63 = some (.slice 107) := by kernel_rfl
theorem un64 : Try.prog.underlying 64 = some (.slice 113) := by kernel_rfl
theorem un69 : Try.prog.underlying 69 = some (.slice 22) := by kernel_rfl
theorem un71 : Try.prog.underlying 71 = some (.array 6 3) := by kernel_rfl
theorem un75 : Try.prog.underlying 75 = some (.pointer 88) := by kernel_rfl
theorem un79 : Try.prog.underlying 79 = some (.pointer 96) := by kernel_rfl
theorem un98 : Try.prog.underlying 98 = some (.slice 102) := by kernel_rfl
theorem un104 : Try.prog.underlying 104 = some (.slice 106) := by kernel_rfl
theorem un107 : Try.prog.underlying 107 = some (.slice 112) := by kernel_rfl
theorem un113 : Try.prog.underlying 113 = some (.slice 115) := by kernel_rfl
theorem fl3 : flat Try.prog 3 = true := by kernel_rfl
theorem sz3 : (Try.prog.info? 3).map (·.size) = some 1 := by kernel_rfl
theorem fl4 : flat Try.prog 4 = true := by kernel_rfl
theorem sz4 : (Try.prog.info? 4).map (·.size) = some 1 := by kernel_rfl
theorem fl5 : flat Try.prog 5 = true := by kernel_rfl
theorem sz5 : (Try.prog.info? 5).map (·.size) = some 1 := by kernel_rfl
theorem fl9 : flat Try.prog 9 = true := by kernel_rfl
theorem sz9 : (Try.prog.info? 9).map (·.size) = some 1 := by kernel_rfl
theorem fl22 : flat Try.prog 22 = true := by kernel_rfl
theorem sz22 : (Try.prog.info? 22).map (·.size) = some 1 := by kernel_rfl
theorem ag24 : aggr Try.prog 24 = true := by kernel_rfl
theorem sz24 : (Try.prog.info? 24).map (·.size) = some 6 := by kernel_rfl
theorem fl25 : flat Try.prog 25 = true := by kernel_rfl
theorem sz25 : (Try.prog.info? 25).map (·.size) = some 1 := by kernel_rfl
theorem fl32 : flat Try.prog 32 = true := by kernel_rfl
theorem sz32 : (Try.prog.info? 32).map (·.size) = some 1 := by kernel_rfl
theorem fl34 : flat Try.prog 34 = true := by kernel_rfl
theorem sz34 : (Try.prog.info? 34).map (·.size) = some 1 := by kernel_rfl
theorem ag49 : aggr Try.prog 49 = true := by kernel_rfl
theorem sz49 : (Try.prog.info? 49).map (·.size) = some 2 := by kernel_rfl
theorem fl50 : flat Try.prog 50 = true := by kernel_rfl
theorem sz50 : (Try.prog.info? 50).map (·.size) = some 1 := by kernel_rfl
theorem ag52 : aggr Try.prog 52 = true := by kernel_rfl
theorem sz52 : (Try.prog.info? 52).map (·.size) = some 8 := by kernel_rfl
theorem ag56 : aggr Try.prog 56 = true := by kernel_rfl
theorem sz56 : (Try.prog.info? 56).map (·.size) = some 17 := by kernel_rfl
theorem fl60 : flat Try.prog 60 = true := by kernel_rfl
theorem sz60 : (Try.prog.info? 60).map (·.size) = some 1 := by kernel_rfl
theorem fl61 : flat Try.prog 61 = true := by kernel_rfl
theorem sz61 : (Try.prog.info? 61).map (·.size) = some 1 := by kernel_rfl
theorem fl62 : flat Try.prog 62 = true := by kernel_rfl
theorem sz62 : (Try.prog.info? 62).map (·.size) = some 1 := by kernel_rfl
theorem fl63 : flat Try.prog 63 = true := by kernel_rfl
theorem sz63 : (Try.prog.info? 63).map (·.size) = some 1 := by kernel_rfl
theorem fl64 : flat Try.prog 64 = true := by kernel_rfl
theorem sz64 : (Try.prog.info? 64).map (·.size) = some 1 := by kernel_rfl
theorem fl75 : flat Try.prog 75 = true := by kernel_rfl
theorem sz75 : (Try.prog.info? 75).map (·.size) = some 1 := by kernel_rfl
theorem ag90 : aggr Try.prog 90 = true := by kernel_rfl
theorem sz90 : (Try.prog.info? 90).map (·.size) = some 1 := by kernel_rfl
theorem fl98 : flat Try.prog 98 = true := by kernel_rfl
theorem sz98 : (Try.prog.info? 98).map (·.size) = some 1 := by kernel_rfl
theorem ag102 : aggr Try.prog 102 = true := by kernel_rfl
theorem sz102 : (Try.prog.info? 102).map (·.size) = some 4 := by kernel_rfl
theorem fl104 : flat Try.prog 104 = true := by kernel_rfl
theorem sz104 : (Try.prog.info? 104).map (·.size) = some 1 := by kernel_rfl
theorem ag106 : aggr Try.prog 106 = true := by kernel_rfl
theorem sz106 : (Try.prog.info? 106).map (·.size) = some 3 := by kernel_rfl
theorem fl107 : flat Try.prog 107 = true := by kernel_rfl
theorem sz107 : (Try.prog.info? 107).map (·.size) = some 1 := by kernel_rfl
theorem ag112 : aggr Try.prog 112 = true := by kernel_rfl
theorem sz112 : (Try.prog.info? 112).map (·.size) = some 3 := by kernel_rfl
theorem fl113 : flat Try.prog 113 = true := by kernel_rfl
theorem sz113 : (Try.prog.info? 113).map (·.size) = some 1 := by kernel_rfl
theorem ag115 : aggr Try.prog 115 = true := by kernel_rfl
theorem sz115 : (Try.prog.info? 115).map (·.size) = some 3 := by kernel_rfl
theorem el3 : elemK Try.prog 3 = some (some (.int .i64 0), 1, 8) := by kernel_rfl
theorem el5 : elemK Try.prog 5 = some (some (.int .u8 0), 1, 1) := by kernel_rfl
theorem el22 : elemK Try.prog 22 = some (some (.slice none 0 0), 1, 24) := by kernel_rfl
theorem el32 : elemK Try.prog 32 = some (some (.slice none 0 0), 1, 24) := by kernel_rfl
theorem el34 : elemK Try.prog 34 = some (some (.slice none 0 0), 1, 24) := by kernel_rfl
theorem el49 : elemK Try.prog 49 = some (some (.agg #[.int .i64 0, .slice none 0 0]), 2, 32) := by kernel_rfl
theorem el98 : elemK Try.prog 98 = some (some (.slice none 0 0), 1, 24) := by kernel_rfl
theorem el102 : elemK Try.prog 102 = some (some (.agg #[.int .i64 0, .int .i64 0, .string ⟨#[]⟩, .int .i64 0]), 4, 40) := by kernel_rfl
theorem el104 : elemK Try.prog 104 = some (some (.slice none 0 0), 1, 24) := by kernel_rfl
theorem el106 : elemK Try.prog 106 = some (some (.agg #[.int .i64 0, .int .i64 0, .int .i64 0]), 3, 24) := by kernel_rfl
theorem el107 : elemK Try.prog 107 = some (some (.slice none 0 0), 1, 24) := by kernel_rfl
theorem el112 : elemK Try.prog 112 = some (some (.agg #[.string ⟨#[]⟩, .slice none 0 0, .slice none 0 0]), 3, 64) := by kernel_rfl
theorem el113 : elemK Try.prog 113 = some (some (.slice none 0 0), 1, 24) := by kernel_rfl
theorem el115 : elemK Try.prog 115 = some (some (.agg #[.string ⟨#[]⟩, .int .i64 0, .int .i64 0]), 3, 32) := by kernel_rfl
theorem zv24 : (Try.prog.info? 24).bind (·.zero) = some (.agg #[.int .i64 0, .int .i64 0, .int .i64 0, .int .i64 0, .int .i64 0, .slice none 0 0]) := by kernel_rfl
theorem zv25 : (Try.prog.info? 25).bind (·.zero) = some (.int .i64 0) := by kernel_rfl
theorem zv49 : (Try.prog.info? 49).bind (·.zero) = some (.agg #[.int .i64 0, .slice none 0 0]) := by kernel_rfl
theorem zv52 : (Try.prog.info? 52).bind (·.zero) = some (.agg #[.int .i64 0, .int .i64 0, .int .i64 0, .int .i64 0, .int .i64 0, .slice none 0 0, .slice none 0 0, .slice none 0 0]) := by kernel_rfl
theorem zv56 : (Try.prog.info? 56).bind (·.zero) = some (.agg #[.int .i64 0, .int .i64 0, .int .i64 0, .int .i64 0, .int .i64 0, .int .i64 0, .int .i64 0, .slice none 0 0, .slice none 0 0, .slice none 0 0, .slice none 0 0, .int .i64 0, .int .i64 0, .int .i64 0, .int .i64 0, .int .i64 0, .slice none 0 0]) := by kernel_rfl
theorem zv71 : (Try.prog.info? 71).bind (·.zero) = some (.agg #[.int .i64 0, .int .i64 0, .int .i64 0, .int .i64 0, .int .i64 0, .int .i64 0]) := by kernel_rfl
theorem zv75 : (Try.prog.info? 75).bind (·.zero) = some (.pointer none) := by kernel_rfl
theorem zv90 : (Try.prog.info? 90).bind (·.zero) = some (.agg #[.pointer none]) := by kernel_rfl
theorem zv102 : (Try.prog.info? 102).bind (·.zero) = some (.agg #[.int .i64 0, .int .i64 0, .string ⟨#[]⟩, .int .i64 0]) := by kernel_rfl
theorem fo24_0 : fieldOf Try.prog 24 0 = some (0, some 1) := by kernel_rfl
theorem fo24_1 : fieldOf Try.prog 24 1 = some (1, some 1) := by kernel_rfl
theorem fo24_2 : fieldOf Try.prog 24 2 = some (2, some 1) := by kernel_rfl
theorem fo24_3 : fieldOf Try.prog 24 3 = some (3, some 1) := by kernel_rfl
theorem fo24_4 : fieldOf Try.prog 24 4 = some (4, some 1) := by kernel_rfl
theorem fo24_5 : fieldOf Try.prog 24 5 = some (5, some 1) := by kernel_rfl
theorem fo49_0 : fieldOf Try.prog 49 0 = some (0, some 1) := by kernel_rfl
theorem fo49_1 : fieldOf Try.prog 49 1 = some (1, some 1) := by kernel_rfl
theorem fo52_0 : fieldOf Try.prog 52 0 = some (0, some 6) := by kernel_rfl
theorem fo52_1 : fieldOf Try.prog 52 1 = some (6, some 1) := by kernel_rfl
theorem fo52_2 : fieldOf Try.prog 52 2 = some (7, some 1) := by kernel_rfl
theorem fo56_0 : fieldOf Try.prog 56 0 = some (0, some 1) := by kernel_rfl
theorem fo56_1 : fieldOf Try.prog 56 1 = some (1, some 1) := by kernel_rfl
theorem fo56_2 : fieldOf Try.prog 56 2 = some (2, some 6) := by kernel_rfl
theorem fo56_3 : fieldOf Try.prog 56 3 = some (8, some 1) := by kernel_rfl
theorem fo56_4 : fieldOf Try.prog 56 4 = some (9, some 1) := by kernel_rfl
theorem fo56_5 : fieldOf Try.prog 56 5 = some (10, some 1) := by kernel_rfl
theorem fo56_6 : fieldOf Try.prog 56 6 = some (11, some 6) := by kernel_rfl
theorem fo66_0 : fieldOf Try.prog 66 0 = some (0, some 1) := by kernel_rfl
theorem fo66_1 : fieldOf Try.prog 66 1 = some (1, some 1) := by kernel_rfl
theorem fo66_2 : fieldOf Try.prog 66 2 = some (2, some 1) := by kernel_rfl
theorem fo66_3 : fieldOf Try.prog 66 3 = some (3, some 1) := by kernel_rfl
theorem fo66_4 : fieldOf Try.prog 66 4 = some (4, some 1) := by kernel_rfl
theorem fo66_5 : fieldOf Try.prog 66 5 = some (5, some 1) := by kernel_rfl
theorem fo88_0 : fieldOf Try.prog 88 0 = some (0, some 1) := by kernel_rfl
theorem fo88_1 : fieldOf Try.prog 88 1 = some (1, some 1) := by kernel_rfl
theorem fo88_2 : fieldOf Try.prog 88 2 = some (2, some 1) := by kernel_rfl
theorem fo88_3 : fieldOf Try.prog 88 3 = some (3, some 1) := by kernel_rfl
theorem fo90_0 : fieldOf Try.prog 90 0 = some (0, some 1) := by kernel_rfl
theorem fo96_0 : fieldOf Try.prog 96 0 = some (0, some 1) := by kernel_rfl
theorem fo96_1 : fieldOf Try.prog 96 1 = some (1, some 1) := by kernel_rfl
theorem fo106_0 : fieldOf Try.prog 106 0 = some (0, some 1) := by kernel_rfl
theorem fo106_1 : fieldOf Try.prog 106 1 = some (1, some 1) := by kernel_rfl
theorem fo106_2 : fieldOf Try.prog 106 2 = some (2, some 1) := by kernel_rfl
theorem fo112_0 : fieldOf Try.prog 112 0 = some (0, some 1) := by kernel_rfl
theorem fo115_0 : fieldOf Try.prog 115 0 = some (0, some 1) := by kernel_rfl
theorem fo115_1 : fieldOf Try.prog 115 1 = some (1, some 1) := by kernel_rfl
theorem bd24_  : ∀ w, (Instr.build 24 #[]).run Try.prog w = .ok (.agg #[.int .i64 0, .int .i64 0, .int .i64 0, .int .i64 0, .int .i64 0, .slice none 0 0]) w := fun w => by kernel_rfl
theorem bd24_0_1_2_3_4 {x0 : Int} {x1 : Int} {x2 : Int} {x3 : Int} {x4 : Int} : ∀ w, (Instr.build 24 #[(0, .int .i64 x0), (1, .int .i64 x1), (2, .int .i64 x2), (3, .int .i64 x3), (4, .int .i64 x4)]).run Try.prog w = .ok (.agg #[.int .i64 x0, .int .i64 x1, .int .i64 x2, .int .i64 x3, .int .i64 x4, .slice none 0 0]) w := fun w => by kernel_rfl
theorem bd24_0_1_2_3_4_5 {x0 : Int} {x1 : Int} {x2 : Int} {x3 : Int} {x4 : Int} {x5 : Option Addr} {x5n x5c : Nat} : ∀ w, (Instr.build 24 #[(0, .int .i64 x0), (1, .int .i64 x1), (2, .int .i64 x2), (3, .int .i64 x3), (4, .int .i64 x4), (5, .slice x5 x5n x5c)]).run Try.prog w = .ok (.agg #[.int .i64 x0, .int .i64 x1, .int .i64 x2, .int .i64 x3, .int .i64 x4, .slice x5 x5n x5c]) w := fun w => by kernel_rfl
theorem bd24_0_1_2_4 {x0 : Int} {x1 : Int} {x2 : Int} {x4 : Int} : ∀ w, (Instr.build 24 #[(0, .int .i64 x0), (1, .int .i64 x1), (2, .int .i64 x2), (4, .int .i64 x4)]).run Try.prog w = .ok (.agg #[.int .i64 x0, .int .i64 x1, .int .i64 x2, .int .i64 0, .int .i64 x4, .slice none 0 0]) w := fun w => by kernel_rfl
theorem bd49_0 {x0 : Int} : ∀ w, (Instr.build 49 #[(0, .int .i64 x0)]).run Try.prog w = .ok (.agg #[.int .i64 x0, .slice none 0 0]) w := fun w => by kernel_rfl
theorem bd49_0_1 {x0 : Int} {x1 : Option Addr} {x1n x1c : Nat} : ∀ w, (Instr.build 49 #[(0, .int .i64 x0), (1, .slice x1 x1n x1c)]).run Try.prog w = .ok (.agg #[.int .i64 x0, .slice x1 x1n x1c]) w := fun w => by kernel_rfl
theorem bd52_0 {x0_0 : Int} {x0_1 : Int} {x0_2 : Int} {x0_3 : Int} {x0_4 : Int} {x0_5 : Option Addr} {x0_5n x0_5c : Nat} : ∀ w, (Instr.build 52 #[(0, .agg #[.int .i64 x0_0, .int .i64 x0_1, .int .i64 x0_2, .int .i64 x0_3, .int .i64 x0_4, .slice x0_5 x0_5n x0_5c])]).run Try.prog w = .ok (.agg #[.int .i64 x0_0, .int .i64 x0_1, .int .i64 x0_2, .int .i64 x0_3, .int .i64 x0_4, .slice x0_5 x0_5n x0_5c, .slice none 0 0, .slice none 0 0]) w := fun w => by kernel_rfl
theorem bd66_  : ∀ w, (Instr.build 66 #[]).run Try.prog w = .ok (.agg #[.slice none 0 0, .slice none 0 0, .slice none 0 0, .slice none 0 0, .slice none 0 0, .slice none 0 0]) w := fun w => by kernel_rfl
theorem bd88_0_2 {x0 : Option Addr} {x0n x0c : Nat} {x2 : Bool} : ∀ w, (Instr.build 88 #[(0, .slice x0 x0n x0c), (2, .bool x2)]).run Try.prog w = .ok (.agg #[.slice x0 x0n x0c, .int .i64 0, .bool x2, .int .i64 0]) w := fun w => by kernel_rfl
theorem bd90_0 {x0 : Option Addr} : ∀ w, (Instr.build 90 #[(0, .pointer x0)]).run Try.prog w = .ok (.agg #[.pointer x0]) w := fun w => by kernel_rfl
theorem bd96_  : ∀ w, (Instr.build 96 #[]).run Try.prog w = .ok (.agg #[.slice none 0 0, .bool false]) w := fun w => by kernel_rfl
theorem bd100_0_1 {x0 : Int} {x1 : Int} : ∀ w, (Instr.build 100 #[(0, .int .i64 x0), (1, .int .i64 x1)]).run Try.prog w = .ok (.agg #[.int .i64 x0, .int .i64 x1]) w := fun w => by kernel_rfl
theorem bd102_0_1_2 {x0_0 : Int} {x0_1 : Int} {x1 : ByteArray} {x2 : Int} : ∀ w, (Instr.build 102 #[(0, .agg #[.int .i64 x0_0, .int .i64 x0_1]), (1, .string x1), (2, .int .i64 x2)]).run Try.prog w = .ok (.agg #[.int .i64 x0_0, .int .i64 x0_1, .string x1, .int .i64 x2]) w := fun w => by kernel_rfl
theorem bd106_0_1_2 {x0 : Int} {x1 : Int} {x2 : Int} : ∀ w, (Instr.build 106 #[(0, .int .i64 x0), (1, .int .i64 x1), (2, .int .i64 x2)]).run Try.prog w = .ok (.agg #[.int .i64 x0, .int .i64 x1, .int .i64 x2]) w := fun w => by kernel_rfl
theorem bd112_0 {x0 : ByteArray} : ∀ w, (Instr.build 112 #[(0, .string x0)]).run Try.prog w = .ok (.agg #[.string x0, .slice none 0 0, .slice none 0 0]) w := fun w => by kernel_rfl
theorem bd115_0_1_2 {x0 : ByteArray} {x1 : Int} {x2 : Int} : ∀ w, (Instr.build 115 #[(0, .string x0), (1, .int .i64 x1), (2, .int .i64 x2)]).run Try.prog w = .ok (.agg #[.string x0, .int .i64 x1, .int .i64 x2]) w := fun w => by kernel_rfl
theorem eg102 : Try.prog.eqGuardType Try.prog.depth 102 = false := by kernel_rfl
theorem eq102 {x_0_0 : Int} {x_0_1 : Int} {x_1 : ByteArray} {x_2 : Int} {y_0_0 : Int} {y_0_1 : Int} {y_1 : ByteArray} {y_2 : Int} : eqv Try.prog 20 102 (.agg #[.int .i64 x_0_0, .int .i64 x_0_1, .string x_1, .int .i64 x_2]) (.agg #[.int .i64 y_0_0, .int .i64 y_0_1, .string y_1, .int .i64 y_2]) = some (decide (x_0_0 = y_0_0 ∧ x_0_1 = y_0_1 ∧ x_1 = y_1 ∧ x_2 = y_2)) := by
  rw [show eqv Try.prog 20 102 (.agg #[.int .i64 x_0_0, .int .i64 x_0_1, .string x_1, .int .i64 x_2]) (.agg #[.int .i64 y_0_0, .int .i64 y_0_1, .string y_1, .int .i64 y_2]) = some (((x_0_0 == y_0_0) && (x_0_1 == y_0_1)) && ((x_1 == y_1) && (x_2 == y_2))) from by kernel_rfl]
  congr 1
  rw [Bool.eq_iff_iff]
  simp only [Bool.and_eq_true, beq_iff_eq, ba_beq, decide_eq_true_eq, and_assoc]
theorem uf78 : isFunc Try.prog 78 = true := by kernel_rfl
theorem ci90 : concr Try.prog 90 = true := by kernel_rfl
theorem en2 : enters Try.prog 2 = true := by kernel_rfl
theorem en3 : enters Try.prog 3 = true := by kernel_rfl
theorem en4 : enters Try.prog 4 = true := by kernel_rfl
theorem en5 : enters Try.prog 5 = true := by kernel_rfl
theorem en6 : enters Try.prog 6 = true := by kernel_rfl
theorem en7 : enters Try.prog 7 = true := by kernel_rfl
theorem en8 : enters Try.prog 8 = true := by kernel_rfl
theorem en9 : enters Try.prog 9 = true := by kernel_rfl
theorem en10 : enters Try.prog 10 = true := by kernel_rfl
theorem en11 : enters Try.prog 11 = true := by kernel_rfl
theorem en12 : enters Try.prog 12 = true := by kernel_rfl
theorem en13 : enters Try.prog 13 = true := by kernel_rfl
theorem en14 : enters Try.prog 14 = true := by kernel_rfl
theorem en15 : enters Try.prog 15 = true := by kernel_rfl
theorem en16 : enters Try.prog 16 = true := by kernel_rfl
theorem en17 : enters Try.prog 17 = true := by kernel_rfl
theorem en18 : enters Try.prog 18 = true := by kernel_rfl
theorem en19 : enters Try.prog 19 = true := by kernel_rfl
theorem en20 : enters Try.prog 20 = true := by kernel_rfl
theorem en21 : enters Try.prog 21 = true := by kernel_rfl
theorem en22 : enters Try.prog 22 = true := by kernel_rfl
theorem en23 : enters Try.prog 23 = true := by kernel_rfl
theorem en24 : enters Try.prog 24 = true := by kernel_rfl
theorem en25 : enters Try.prog 25 = true := by kernel_rfl
theorem en26 : enters Try.prog 26 = true := by kernel_rfl
theorem en27 : enters Try.prog 27 = true := by kernel_rfl
theorem en28 : enters Try.prog 28 = true := by kernel_rfl
theorem en29 : enters Try.prog 29 = true := by kernel_rfl
theorem en30 : enters Try.prog 30 = true := by kernel_rfl
theorem en31 : enters Try.prog 31 = true := by kernel_rfl
theorem en32 : enters Try.prog 32 = true := by kernel_rfl
theorem en33 : enters Try.prog 33 = true := by kernel_rfl
theorem en34 : enters Try.prog 34 = true := by kernel_rfl
theorem en35 : enters Try.prog 35 = true := by kernel_rfl
theorem en36 : enters Try.prog 36 = true := by kernel_rfl
theorem en37 : enters Try.prog 37 = true := by kernel_rfl
theorem en38 : enters Try.prog 38 = true := by kernel_rfl
theorem en39 : enters Try.prog 39 = true := by kernel_rfl
theorem en40 : enters Try.prog 40 = true := by kernel_rfl
theorem en41 : enters Try.prog 41 = true := by kernel_rfl
theorem en42 : enters Try.prog 42 = true := by kernel_rfl
theorem en43 : enters Try.prog 43 = true := by kernel_rfl
theorem en44 : enters Try.prog 44 = true := by kernel_rfl
theorem en45 : enters Try.prog 45 = true := by kernel_rfl
theorem en46 : enters Try.prog 46 = true := by kernel_rfl
theorem en47 : enters Try.prog 47 = true := by kernel_rfl
theorem en48 : enters Try.prog 48 = true := by kernel_rfl
theorem en49 : enters Try.prog 49 = true := by kernel_rfl
theorem en50 : enters Try.prog 50 = true := by kernel_rfl
theorem en51 : enters Try.prog 51 = true := by kernel_rfl
theorem en52 : enters Try.prog 52 = true := by kernel_rfl
theorem en53 : enters Try.prog 53 = true := by kernel_rfl
theorem en54 : enters Try.prog 54 = true := by kernel_rfl
theorem en55 : enters Try.prog 55 = true := by kernel_rfl
theorem en56 : enters Try.prog 56 = true := by kernel_rfl
theorem en57 : enters Try.prog 57 = true := by kernel_rfl
theorem en58 : enters Try.prog 58 = true := by kernel_rfl
theorem en59 : enters Try.prog 59 = true := by kernel_rfl
theorem en60 : enters Try.prog 60 = true := by kernel_rfl
theorem en61 : enters Try.prog 61 = true := by kernel_rfl
theorem en62 : enters Try.prog 62 = true := by kernel_rfl
theorem en63 : enters Try.prog 63 = true := by kernel_rfl
theorem en64 : enters Try.prog 64 = true := by kernel_rfl
theorem en65 : enters Try.prog 65 = true := by kernel_rfl
theorem en66 : enters Try.prog 66 = true := by kernel_rfl
theorem en67 : enters Try.prog 67 = true := by kernel_rfl
theorem en68 : enters Try.prog 68 = true := by kernel_rfl
theorem en69 : enters Try.prog 69 = true := by kernel_rfl
theorem en70 : enters Try.prog 70 = true := by kernel_rfl
theorem en71 : enters Try.prog 71 = true := by kernel_rfl
theorem en72 : enters Try.prog 72 = true := by kernel_rfl
theorem en73 : enters Try.prog 73 = true := by kernel_rfl
theorem en74 : enters Try.prog 74 = true := by kernel_rfl
end Go.Proofs.Ytfbdcllbgfohdaa.T
