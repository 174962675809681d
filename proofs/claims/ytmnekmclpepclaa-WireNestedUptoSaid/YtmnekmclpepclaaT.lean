/- Closed facts about this seat's program: its types' cells, its fields' places, its functions' bodies: each by Lean's kernel. Written by a program (closed.py). -/
import Derived.Test.YtmnekmclpepclaaProg
import Derived.Test.YtmnekmclpepclaaK25
set_option linter.unusedSimpArgs false
namespace Go.Proofs.Ytmnekmclpepclaa.T
open Go Go.Proofs.Ytmnekmclpepclaa.K
theorem un3 : Try.prog.underlying 3 = some (.int .i64) := by kernel_rfl
theorem un4 : Try.prog.underlying 4 = some (.bool) := by kernel_rfl
theorem un5 : Try.prog.underlying 5 = some (.int .u8) := by kernel_rfl
theorem un9 : Try.prog.underlying 9 = some (.string) := by kernel_rfl
theorem un22 : Try.prog.underlying 22 = some (.slice 5) := by kernel_rfl
theorem un23 : Try.prog.underlying 23 = some (.int .i64) := by kernel_rfl
theorem un30 : Try.prog.underlying 30 = some (.slice 42) := by kernel_rfl
theorem un31 : Try.prog.underlying 31 = some (.pointer 91) := by kernel_rfl
theorem un33 : Try.prog.underlying 33 = some (.array 4 31) := by kernel_rfl
theorem un37 : Try.prog.underlying 37 = some (.array 4 22) := by kernel_rfl
theorem un38 : Try.prog.underlying 38 = some (.array 4 4) := by kernel_rfl
theorem un39 : Try.prog.underlying 39 = some (.slice 22) := by kernel_rfl
theorem un40 : Try.prog.underlying 40 = some (.slice 9) := by kernel_rfl
theorem un49 : Try.prog.underlying 49 = some (.slice 47) := by kernel_rfl
theorem un57 : Try.prog.underlying 57 = some (.int .u64) := by kernel_rfl
theorem un60 : Try.prog.underlying 60 = some (.pointer 100) := by kernel_rfl
theorem un63 : Try.prog.underlying 63 = some (.slice 69) := by kernel_rfl
theorem un64 : Try.prog.underlying 64 = some (.slice 66) := by kernel_rfl
theorem un108 : Try.prog.underlying 108 = some (.slice 3) := by kernel_rfl
theorem fl3 : flat Try.prog 3 = true := by kernel_rfl
theorem sz3 : (Try.prog.info? 3).map (·.size) = some 1 := by kernel_rfl
theorem fl4 : flat Try.prog 4 = true := by kernel_rfl
theorem sz4 : (Try.prog.info? 4).map (·.size) = some 1 := by kernel_rfl
theorem fl5 : flat Try.prog 5 = true := by kernel_rfl
theorem sz5 : (Try.prog.info? 5).map (·.size) = some 1 := by kernel_rfl
theorem fl9 : flat Try.prog 9 = true := by kernel_rfl
theorem sz9 : (Try.prog.info? 9).map (·.size) = some 1 := by kernel_rfl
theorem fl22 : flat Try.prog 22 = true := by kernel_rfl
theorem sz22 : (Try.prog.info? 22).map (·.size) = some 1 := by kernel_rfl
theorem fl23 : flat Try.prog 23 = true := by kernel_rfl
theorem sz23 : (Try.prog.info? 23).map (·.size) = some 1 := by kernel_rfl
theorem fl30 : flat Try.prog 30 = true := by kernel_rfl
theorem sz30 : (Try.prog.info? 30).map (·.size) = some 1 := by kernel_rfl
theorem fl31 : flat Try.prog 31 = true := by kernel_rfl
theorem sz31 : (Try.prog.info? 31).map (·.size) = some 1 := by kernel_rfl
theorem ag33 : aggr Try.prog 33 = true := by kernel_rfl
theorem sz33 : (Try.prog.info? 33).map (·.size) = some 4 := by kernel_rfl
theorem ag37 : aggr Try.prog 37 = true := by kernel_rfl
theorem sz37 : (Try.prog.info? 37).map (·.size) = some 4 := by kernel_rfl
theorem ag38 : aggr Try.prog 38 = true := by kernel_rfl
theorem sz38 : (Try.prog.info? 38).map (·.size) = some 4 := by kernel_rfl
theorem ag42 : aggr Try.prog 42 = true := by kernel_rfl
theorem sz42 : (Try.prog.info? 42).map (·.size) = some 5 := by kernel_rfl
theorem ag47 : aggr Try.prog 47 = true := by kernel_rfl
theorem sz47 : (Try.prog.info? 47).map (·.size) = some 4 := by kernel_rfl
theorem fl60 : flat Try.prog 60 = true := by kernel_rfl
theorem sz60 : (Try.prog.info? 60).map (·.size) = some 1 := by kernel_rfl
theorem fl63 : flat Try.prog 63 = true := by kernel_rfl
theorem sz63 : (Try.prog.info? 63).map (·.size) = some 1 := by kernel_rfl
theorem fl64 : flat Try.prog 64 = true := by kernel_rfl
theorem sz64 : (Try.prog.info? 64).map (·.size) = some 1 := by kernel_rfl
theorem ag66 : aggr Try.prog 66 = true := by kernel_rfl
theorem sz66 : (Try.prog.info? 66).map (·.size) = some 3 := by kernel_rfl
theorem ag69 : aggr Try.prog 69 = true := by kernel_rfl
theorem sz69 : (Try.prog.info? 69).map (·.size) = some 2 := by kernel_rfl
theorem ag102 : aggr Try.prog 102 = true := by kernel_rfl
theorem sz102 : (Try.prog.info? 102).map (·.size) = some 1 := by kernel_rfl
theorem el3 : elemK Try.prog 3 = some (some (.int .i64 0), 1, 8) := by kernel_rfl
theorem el4 : elemK Try.prog 4 = some (some (.bool false), 1, 1) := by kernel_rfl
theorem el5 : elemK Try.prog 5 = some (some (.int .u8 0), 1, 1) := by kernel_rfl
theorem el9 : elemK Try.prog 9 = some (some (.string ⟨#[]⟩), 1, 16) := by kernel_rfl
theorem el22 : elemK Try.prog 22 = some (some (.slice none 0 0), 1, 24) := by kernel_rfl
theorem el31 : elemK Try.prog 31 = some (some (.pointer none), 1, 8) := by kernel_rfl
theorem el42 : elemK Try.prog 42 = some (some (.agg #[.int .i64 0, .int .i64 0, .int .i64 0, .bool false, .string ⟨#[]⟩]), 5, 48) := by kernel_rfl
theorem el47 : elemK Try.prog 47 = some (some (.agg #[.int .i64 0, .int .i64 0, .bool false, .string ⟨#[]⟩]), 4, 40) := by kernel_rfl
theorem el66 : elemK Try.prog 66 = some (some (.agg #[.int .i64 0, .bool false, .string ⟨#[]⟩]), 3, 32) := by kernel_rfl
theorem el69 : elemK Try.prog 69 = some (some (.agg #[.int .i64 0, .int .i64 0]), 2, 16) := by kernel_rfl
theorem zv3 : (Try.prog.info? 3).bind (·.zero) = some (.int .i64 0) := by kernel_rfl
theorem zv4 : (Try.prog.info? 4).bind (·.zero) = some (.bool false) := by kernel_rfl
theorem zv22 : (Try.prog.info? 22).bind (·.zero) = some (.slice none 0 0) := by kernel_rfl
theorem zv23 : (Try.prog.info? 23).bind (·.zero) = some (.int .i64 0) := by kernel_rfl
theorem zv33 : (Try.prog.info? 33).bind (·.zero) = some (.agg #[.pointer none, .pointer none, .pointer none, .pointer none]) := by kernel_rfl
theorem zv37 : (Try.prog.info? 37).bind (·.zero) = some (.agg #[.slice none 0 0, .slice none 0 0, .slice none 0 0, .slice none 0 0]) := by kernel_rfl
theorem zv38 : (Try.prog.info? 38).bind (·.zero) = some (.agg #[.bool false, .bool false, .bool false, .bool false]) := by kernel_rfl
theorem zv42 : (Try.prog.info? 42).bind (·.zero) = some (.agg #[.int .i64 0, .int .i64 0, .int .i64 0, .bool false, .string ⟨#[]⟩]) := by kernel_rfl
theorem zv47 : (Try.prog.info? 47).bind (·.zero) = some (.agg #[.int .i64 0, .int .i64 0, .bool false, .string ⟨#[]⟩]) := by kernel_rfl
theorem zv60 : (Try.prog.info? 60).bind (·.zero) = some (.pointer none) := by kernel_rfl
theorem zv64 : (Try.prog.info? 64).bind (·.zero) = some (.slice none 0 0) := by kernel_rfl
theorem zv66 : (Try.prog.info? 66).bind (·.zero) = some (.agg #[.int .i64 0, .bool false, .string ⟨#[]⟩]) := by kernel_rfl
theorem zv69 : (Try.prog.info? 69).bind (·.zero) = some (.agg #[.int .i64 0, .int .i64 0]) := by kernel_rfl
theorem zv102 : (Try.prog.info? 102).bind (·.zero) = some (.agg #[.pointer none]) := by kernel_rfl
theorem fo42_0 : fieldOf Try.prog 42 0 = some (0, some 1) := by kernel_rfl
theorem fo42_1 : fieldOf Try.prog 42 1 = some (1, some 1) := by kernel_rfl
theorem fo42_2 : fieldOf Try.prog 42 2 = some (2, some 1) := by kernel_rfl
theorem fo42_3 : fieldOf Try.prog 42 3 = some (3, some 1) := by kernel_rfl
theorem fo42_4 : fieldOf Try.prog 42 4 = some (4, some 1) := by kernel_rfl
theorem fo47_0 : fieldOf Try.prog 47 0 = some (0, some 1) := by kernel_rfl
theorem fo47_1 : fieldOf Try.prog 47 1 = some (1, some 1) := by kernel_rfl
theorem fo47_2 : fieldOf Try.prog 47 2 = some (2, some 1) := by kernel_rfl
theorem fo47_3 : fieldOf Try.prog 47 3 = some (3, some 1) := by kernel_rfl
theorem fo66_0 : fieldOf Try.prog 66 0 = some (0, some 1) := by kernel_rfl
theorem fo66_1 : fieldOf Try.prog 66 1 = some (1, some 1) := by kernel_rfl
theorem fo66_2 : fieldOf Try.prog 66 2 = some (2, some 1) := by kernel_rfl
theorem fo69_0 : fieldOf Try.prog 69 0 = some (0, some 1) := by kernel_rfl
theorem fo69_1 : fieldOf Try.prog 69 1 = some (1, some 1) := by kernel_rfl
theorem fo76_0 : fieldOf Try.prog 76 0 = some (0, some 1) := by kernel_rfl
theorem fo76_1 : fieldOf Try.prog 76 1 = some (1, some 1) := by kernel_rfl
theorem fo76_2 : fieldOf Try.prog 76 2 = some (2, some 1) := by kernel_rfl
theorem fo76_3 : fieldOf Try.prog 76 3 = some (3, some 1) := by kernel_rfl
theorem fo76_4 : fieldOf Try.prog 76 4 = some (4, some 1) := by kernel_rfl
theorem fo91_0 : fieldOf Try.prog 91 0 = some (0, some 1) := by kernel_rfl
theorem fo91_1 : fieldOf Try.prog 91 1 = some (1, some 1) := by kernel_rfl
theorem fo100_0 : fieldOf Try.prog 100 0 = some (0, some 1) := by kernel_rfl
theorem fo100_1 : fieldOf Try.prog 100 1 = some (1, some 1) := by kernel_rfl
theorem fo100_2 : fieldOf Try.prog 100 2 = some (2, some 1) := by kernel_rfl
theorem fo100_3 : fieldOf Try.prog 100 3 = some (3, some 1) := by kernel_rfl
theorem fo102_0 : fieldOf Try.prog 102 0 = some (0, some 1) := by kernel_rfl
theorem bd33_0_1_2_3 {x0 : Option Addr} {x1 : Option Addr} {x2 : Option Addr} {x3 : Option Addr} : ∀ w, (Instr.build 33 #[(0, .pointer x0), (1, .pointer x1), (2, .pointer x2), (3, .pointer x3)]).run Try.prog w = .ok (.agg #[.pointer x0, .pointer x1, .pointer x2, .pointer x3]) w := fun w => by kernel_rfl
theorem bd37_0_1_2_3 {x0 : Option Addr} {x0n x0c : Nat} {x1 : Option Addr} {x1n x1c : Nat} {x2 : Option Addr} {x2n x2c : Nat} {x3 : Option Addr} {x3n x3c : Nat} : ∀ w, (Instr.build 37 #[(0, .slice x0 x0n x0c), (1, .slice x1 x1n x1c), (2, .slice x2 x2n x2c), (3, .slice x3 x3n x3c)]).run Try.prog w = .ok (.agg #[.slice x0 x0n x0c, .slice x1 x1n x1c, .slice x2 x2n x2c, .slice x3 x3n x3c]) w := fun w => by kernel_rfl
theorem bd38_  : ∀ w, (Instr.build 38 #[]).run Try.prog w = .ok (.agg #[.bool false, .bool false, .bool false, .bool false]) w := fun w => by kernel_rfl
theorem bd42_1_2 {x1 : Int} {x2 : Int} : ∀ w, (Instr.build 42 #[(1, .int .i64 x1), (2, .int .i64 x2)]).run Try.prog w = .ok (.agg #[.int .i64 0, .int .i64 x1, .int .i64 x2, .bool false, .string ⟨#[]⟩]) w := fun w => by kernel_rfl
theorem bd42_1_4 {x1 : Int} {x4 : ByteArray} : ∀ w, (Instr.build 42 #[(1, .int .i64 x1), (4, .string x4)]).run Try.prog w = .ok (.agg #[.int .i64 0, .int .i64 x1, .int .i64 0, .bool false, .string x4]) w := fun w => by kernel_rfl
theorem bd47_0_1_2_3 {x0 : Int} {x1 : Int} {x2 : Bool} {x3 : ByteArray} : ∀ w, (Instr.build 47 #[(0, .int .i64 x0), (1, .int .i64 x1), (2, .bool x2), (3, .string x3)]).run Try.prog w = .ok (.agg #[.int .i64 x0, .int .i64 x1, .bool x2, .string x3]) w := fun w => by kernel_rfl
theorem bd66_  : ∀ w, (Instr.build 66 #[]).run Try.prog w = .ok (.agg #[.int .i64 0, .bool false, .string ⟨#[]⟩]) w := fun w => by kernel_rfl
theorem bd66_0 {x0 : Int} : ∀ w, (Instr.build 66 #[(0, .int .i64 x0)]).run Try.prog w = .ok (.agg #[.int .i64 x0, .bool false, .string ⟨#[]⟩]) w := fun w => by kernel_rfl
theorem bd66_1 {x1 : Bool} : ∀ w, (Instr.build 66 #[(1, .bool x1)]).run Try.prog w = .ok (.agg #[.int .i64 0, .bool x1, .string ⟨#[]⟩]) w := fun w => by kernel_rfl
theorem bd66_2 {x2 : ByteArray} : ∀ w, (Instr.build 66 #[(2, .string x2)]).run Try.prog w = .ok (.agg #[.int .i64 0, .bool false, .string x2]) w := fun w => by kernel_rfl
theorem bd69_0 {x0 : Int} : ∀ w, (Instr.build 69 #[(0, .int .i64 x0)]).run Try.prog w = .ok (.agg #[.int .i64 x0, .int .i64 0]) w := fun w => by kernel_rfl
theorem bd69_0_1 {x0 : Int} {x1 : Int} : ∀ w, (Instr.build 69 #[(0, .int .i64 x0), (1, .int .i64 x1)]).run Try.prog w = .ok (.agg #[.int .i64 x0, .int .i64 x1]) w := fun w => by kernel_rfl
theorem bd91_  : ∀ w, (Instr.build 91 #[]).run Try.prog w = .ok (.agg #[.slice none 0 0, .bool false]) w := fun w => by kernel_rfl
theorem bd100_0_2 {x0 : Option Addr} {x0n x0c : Nat} {x2 : Bool} : ∀ w, (Instr.build 100 #[(0, .slice x0 x0n x0c), (2, .bool x2)]).run Try.prog w = .ok (.agg #[.slice x0 x0n x0c, .int .i64 0, .bool x2, .int .i64 0]) w := fun w => by kernel_rfl
theorem bd102_0 {x0 : Option Addr} : ∀ w, (Instr.build 102 #[(0, .pointer x0)]).run Try.prog w = .ok (.agg #[.pointer x0]) w := fun w => by kernel_rfl
theorem eg66 : Try.prog.eqGuardType Try.prog.depth 66 = false := by kernel_rfl
theorem eq66 {x_0 : Int} {x_1 : Bool} {x_2 : ByteArray} {y_0 : Int} {y_1 : Bool} {y_2 : ByteArray} : eqv Try.prog 20 66 (.agg #[.int .i64 x_0, .bool x_1, .string x_2]) (.agg #[.int .i64 y_0, .bool y_1, .string y_2]) = some (decide (x_0 = y_0 ∧ x_1 = y_1 ∧ x_2 = y_2)) := by
  rw [show eqv Try.prog 20 66 (.agg #[.int .i64 x_0, .bool x_1, .string x_2]) (.agg #[.int .i64 y_0, .bool y_1, .string y_2]) = some ((x_0 == y_0) && ((x_1 == y_1) && (x_2 == y_2))) from by kernel_rfl]
  congr 1
  rw [Bool.eq_iff_iff]
  simp only [Bool.and_eq_true, beq_iff_eq, ba_beq, decide_eq_true_eq, and_assoc]
theorem uf61 : isFunc Try.prog 61 = true := by kernel_rfl
theorem ci102 : concr Try.prog 102 = true := by kernel_rfl
theorem en2 : enters Try.prog 2 = true := by kernel_rfl
theorem en3 : enters Try.prog 3 = true := by kernel_rfl
theorem en4 : enters Try.prog 4 = true := by kernel_rfl
theorem en5 : enters Try.prog 5 = true := by kernel_rfl
theorem en6 : enters Try.prog 6 = true := by kernel_rfl
theorem en7 : enters Try.prog 7 = true := by kernel_rfl
theorem en8 : enters Try.prog 8 = true := by kernel_rfl
theorem en9 : enters Try.prog 9 = true := by kernel_rfl
theorem en10 : enters Try.prog 10 = true := by kernel_rfl
theorem en11 : enters Try.prog 11 = true := by kernel_rfl
theorem en12 : enters Try.prog 12 = true := by kernel_rfl
theorem en13 : enters Try.prog 13 = true := by kernel_rfl
theorem en14 : enters Try.prog 14 = true := by kernel_rfl
theorem en15 : enters Try.prog 15 = true := by kernel_rfl
theorem en16 : enters Try.prog 16 = true := by kernel_rfl
theorem en17 : enters Try.prog 17 = true := by kernel_rfl
theorem en18 : enters Try.prog 18 = true := by kernel_rfl
theorem en19 : enters Try.prog 19 = true := by kernel_rfl
theorem en20 : enters Try.prog 20 = true := by kernel_rfl
theorem en21 : enters Try.prog 21 = true := by kernel_rfl
theorem en22 : enters Try.prog 22 = true := by kernel_rfl
theorem en23 : enters Try.prog 23 = true := by kernel_rfl
theorem en24 : enters Try.prog 24 = true := by kernel_rfl
theorem en25 : enters Try.prog 25 = true := by kernel_rfl
theorem en26 : enters Try.prog 26 = true := by kernel_rfl
theorem en27 : enters Try.prog 27 = true := by kernel_rfl
theorem en28 : enters Try.prog 28 = true := by kernel_rfl
theorem en29 : enters Try.prog 29 = true := by kernel_rfl
theorem en30 : enters Try.prog 30 = true := by kernel_rfl
theorem en31 : enters Try.prog 31 = true := by kernel_rfl
theorem en32 : enters Try.prog 32 = true := by kernel_rfl
theorem en33 : enters Try.prog 33 = true := by kernel_rfl
theorem en34 : enters Try.prog 34 = true := by kernel_rfl
theorem en35 : enters Try.prog 35 = true := by kernel_rfl
theorem en36 : enters Try.prog 36 = true := by kernel_rfl
theorem en37 : enters Try.prog 37 = true := by kernel_rfl
theorem en38 : enters Try.prog 38 = true := by kernel_rfl
theorem en39 : enters Try.prog 39 = true := by kernel_rfl
theorem en40 : enters Try.prog 40 = true := by kernel_rfl
theorem en41 : enters Try.prog 41 = true := by kernel_rfl
theorem en42 : enters Try.prog 42 = true := by kernel_rfl
theorem en43 : enters Try.prog 43 = true := by kernel_rfl
theorem en44 : enters Try.prog 44 = true := by kernel_rfl
theorem en45 : enters Try.prog 45 = true := by kernel_rfl
theorem en46 : enters Try.prog 46 = true := by kernel_rfl
theorem en47 : enters Try.prog 47 = true := by kernel_rfl
theorem en48 : enters Try.prog 48 = true := by kernel_rfl
theorem en49 : enters Try.prog 49 = true := by kernel_rfl
theorem en50 : enters Try.prog 50 = true := by kernel_rfl
theorem en51 : enters Try.prog 51 = true := by kernel_rfl
theorem en52 : enters Try.prog 52 = true := by kernel_rfl
theorem en53 : enters Try.prog 53 = true := by kernel_rfl
theorem en54 : enters Try.prog 54 = true := by kernel_rfl
theorem en55 : enters Try.prog 55 = true := by kernel_rfl
theorem en56 : enters Try.prog 56 = true := by kernel_rfl
theorem en57 : enters Try.prog 57 = true := by kernel_rfl
theorem en58 : enters Try.prog 58 = true := by kernel_rfl
theorem en59 : enters Try.prog 59 = true := by kernel_rfl
theorem en60 : enters Try.prog 60 = true := by kernel_rfl
theorem en61 : enters Try.prog 61 = true := by kernel_rfl
theorem en62 : enters Try.prog 62 = true := by kernel_rfl
theorem en63 : enters Try.prog 63 = true := by kernel_rfl
theorem en64 : enters Try.prog 64 = true := by kernel_rfl
theorem en65 : enters Try.prog 65 = true := by kernel_rfl
theorem en66 : enters Try.prog 66 = true := by kernel_rfl
theorem en67 : enters Try.prog 67 = true := by kernel_rfl
theorem en68 : enters Try.prog 68 = true := by kernel_rfl
theorem en69 : enters Try.prog 69 = true := by kernel_rfl
theorem en70 : enters Try.prog 70 = true := by kernel_rfl
theorem en71 : enters Try.prog 71 = true := by kernel_rfl
theorem en72 : enters Try.prog 72 = true := by kernel_rfl
end Go.Proofs.Ytmnekmclpepclaa.T
