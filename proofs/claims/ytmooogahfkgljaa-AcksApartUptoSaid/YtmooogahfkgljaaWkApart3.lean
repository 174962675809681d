/- The walk of barrowlaw17.Pair's play, on one of four tables. Conditions: a book of at most 2 to the 42 entries. -/
import Derived.Test.YtmooogahfkgljaaPApart
set_option linter.unusedVariables false
set_option linter.unusedSimpArgs false
namespace Go.Proofs.Ytmooogahfkgljaa.Wk
open Go Go.RowKit Go.Proofs.Ytmooogahfkgljaa Go.Proofs.Ytmooogahfkgljaa.K
theorem playT (W w : World) (L : List As) (b : Nat) (d0 d1 d2 d3 : TD) (m : Nat) (hm : m ≤ 4398046511104) (h0 : d0.ok m) (h1 : d1.ok m) (h2 : d2.ok m) (h3 : d3.ok m) (k : Nat) (hk : k < 4) (sk sT sA sB sC : Int) (hS0 : Sat W w (TB b d0 d1 d2 d3 :: L)) :
    Calls Try.prog 58 #[.pointer (some ⟨b, k * 4, none⟩), .agg #[.int .i64 sk, .int .i64 sT, .int .i64 sA, .int .i64 sB, .int .i64 sC]] w fun e w' => e = .returned (.bool true) ∧ ∃ d0' d1' d2' d3' : TD, (d0'.ok (m + 1) ∧ d1'.ok (m + 1) ∧ d2'.ok (m + 1) ∧ d3'.ok (m + 1)) ∧ Sat W w' (TB b d0' d1' d2' d3' :: L) := by
  have hS : Sat W w (ST b d0 d1 d2 d3 ++ L) := stars_un hS0
  match k, hk with
  | 0, _ =>
    exact (playD W w _ b [] (d1.cells ++ d2.cells ++ d3.cells) d0 m h0 hm sk sT sA sB sC hS).mono fun e w' ⟨he, d, hd, hS⟩ => ⟨he, d, d1, d2, d3, ⟨hd, h1.up, h2.up, h3.up⟩, stars_of (M := ST b d d1 d2 d3) hS⟩
  | 1, _ =>
    have hS' : Sat W w (pto b (.cells (d0.cells ++ d1.cells ++ (d2.cells ++ d3.cells)).toArray 73) :: d1.tab :: d1.told :: d1.book :: _) := ((((hS.p 6).p 6).p 6).p 3)
    exact (playD W w _ b d0.cells (d2.cells ++ d3.cells) d1 m h1 hm sk sT sA sB sC hS').mono fun e w' ⟨he, d, hd, hS⟩ => ⟨he, d0, d, d2, d3, ⟨h0.up, hd, h2.up, h3.up⟩, stars_of (M := ST b d0 d d2 d3) (((((((hS.p 3).p 3).p 3).p 6).p 6).p 6).p 6)⟩
  | 2, _ =>
    have hS' : Sat W w (pto b (.cells ((d0.cells ++ d1.cells) ++ d2.cells ++ d3.cells).toArray 73) :: d2.tab :: d2.told :: d2.book :: _) := ((((hS.p 9).p 9).p 9).p 3)
    exact (playD W w _ b (d0.cells ++ d1.cells) d3.cells d2 m h2 hm sk sT sA sB sC hS').mono fun e w' ⟨he, d, hd, hS⟩ => ⟨he, d0, d1, d, d3, ⟨h0.up, h1.up, hd, h3.up⟩, stars_of (M := ST b d0 d1 d d3) ((((((((((hS.p 3).p 3).p 3).p 9).p 9).p 9).p 9).p 9).p 9).p 9)⟩
  | 3, _ =>
    have hS' : Sat W w (pto b (.cells ((d0.cells ++ d1.cells ++ d2.cells) ++ d3.cells ++ []).toArray 73) :: d3.tab :: d3.told :: d3.book :: _) := ((((hS.p 12).p 12).p 12).p 3)
    exact (playD W w _ b (d0.cells ++ d1.cells ++ d2.cells) [] d3 m h3 hm sk sT sA sB sC hS').mono fun e w' ⟨he, d, hd, hS⟩ => ⟨he, d0, d1, d2, d, ⟨h0.up, h1.up, h2.up, hd⟩, stars_of (M := ST b d0 d1 d2 d) (((((((((((((hS.p 3).p 3).p 3).p 12).p 12).p 12).p 12).p 12).p 12).p 12).p 12).p 12).p 12)⟩
end Go.Proofs.Ytmooogahfkgljaa.Wk
