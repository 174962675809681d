/- Texts of our own that a row leans on, put together: WkKeep8, K18, O5, O18w. No condition of their own. -/
import Derived.Test.YtfbdcllbgfohdaaMRowMailKeeps8
set_option linter.unusedVariables false
set_option linter.unusedSimpArgs false
namespace Go.Proofs.Ytfbdcllbgfohdaa.Wk
open Go Go.RowKit Go.Proofs.Ytfbdcllbgfohdaa Go.Proofs.Ytfbdcllbgfohdaa.K
theorem book_join {W w : World} {L : List As} {x y z : AskD} {H T B : As} (s : Sat W w (B :: T :: H :: x.ch :: y.ch :: z.ch :: L)) : Sat W w (B :: H :: stars ([x.iv, y.iv, z.iv].map (VW.row 3 1)) :: T :: stars ((x.tx ++ y.tx ++ z.tx).map (VW.row 5 1)) :: stars ([x.pv, y.pv, z.pv].map (VW.row 49 2)) :: L) := by
 have s1 := AskD.apart (s.p 3)
 have s2 := AskD.apart (s1.p 6)
 have s3 := AskD.apart (s2.p 9)
 have s4 := stars_cat2 (stars_cat2 ((((((((((((s3.p 11).p 11).p 11).p 5).p 8).p 11).p 7).p 9).p 11).p 9).p 10).p 11))
 rw [← List.map_append, ← List.map_append] at s4
 have s5 := bk_to (M := [VW.row 3 1 x.iv, VW.row 3 1 y.iv, VW.row 3 1 z.iv]) ((((((((((s4.p 9).p 9).p 9).p 9).p 9).p 9).p 6).p 9).p 9).p 9)
 have s6 := bk_to (M := [VW.row 49 2 x.pv, VW.row 49 2 y.pv, VW.row 49 2 z.pv]) ((((((((s5.p 7).p 7).p 7).p 4).p 4).p 7).p 7).p 7)
 exact (((((s6.p 2).p 4).p 3).p 5).p 5)
set_option maxRecDepth 100000 in
set_option maxHeartbeats 1000000 in
theorem MailKeeps_calls (W : World) (k f t lo hi : Int) (A : Option Addr) (c : Nat) (ps : List PartW) (cart : Int) (A9 : Option Addr) (c9 : Nat) (bs : List UInt8) (hR : Rd W 2 (.slice A ps.length c) ps.length (ps.flatMap encW)) (hlen : ps.length ≤ 1000000000000) (hB : BodW W ps) (hbk : partsZ ps ≤ 100000000) (hRb : Rd W 1 (.slice A9 bs.length c9) bs.length (bs.map bcell)) (hb : bs.length ≤ 2000000) : Calls Try.prog 11 #[.agg #[.int .i64 k, .int .i64 f, .int .i64 t, .int .i64 lo, .int .i64 hi, .slice A ps.length c], .int .i64 cart, .slice A9 bs.length c9] W fun e w' => e = .returned (.bool true) ∧ Sat W w' [] := by
 refine enter Try.func11 rfl rfl rfl (.cons (i := 0) rfl (.cons (i := 1) rfl (.cons (i := 2) rfl .nil))) ?_
 intro a hA
 have hS := Sat.start W
 have hbs80 : (bs ++ spareN 80).length = bs.length + 80 := by rw [List.length_append, spareN_len]
 have hpz := putV_le (k := k) (f := f) (t := t) (lo := lo) (hi := hi) (ps := ps) (by omega)
 have hpl := partsZ_len ps
 refine wp_seq_k fun k1 hk1 => ?_
 refine wp_region_lit ?_
 refine goB hA rfl rfl hS ?_
 clear hA a hS; intro b3 w hS a hA
 refine go1 hA rfl rfl rfl (r_assign (hA.ev rfl)) ?_; clear hA a; intro a hA
 refine wpList_nil ?_
 refine hk1 _ _ ?_
 clear hk1 k1
 replace hA := hA.keep (.cons (i := 1) rfl (.cons (i := 2) rfl (.cons (i := 3) rfl (.cons (i := 6) rfl .nil))))
 refine wp_seq_k fun k2 hk2 => ?_
 refine wp_seq_k fun k3 hk3 => ?_
 refine wp_region_lit ?_
 refine goF hA rfl T.en24 rfl (awake_calls _) ?_
 clear hA a; rintro e w ⟨rfl, hT⟩; replace hS : Sat _ _ _ := hS.rebase hT; clear hT
 refine ⟨_, rfl, ?_⟩; intro a hA
 refine go1 hA rfl rfl rfl (r_not (hA.ev rfl)) ?_; clear hA a; intro a hA
 refine wpList_nil ?_
 refine hk3 _ _ ?_
 clear hk3 k3
 replace hA := hA.keep (.cons (i := 1) rfl (.cons (i := 2) rfl (.cons (i := 3) rfl (.cons (i := 6) rfl (.cons (i := 19) rfl .nil)))))
 refine wp_cond_false (hA.ev rfl) ?_
 refine wp_skip ?_
 refine hk2 _ _ ?_
 clear hk2 k2
 replace hA := hA.keep (.cons (i := 1) rfl (.cons (i := 2) rfl (.cons (i := 3) rfl (.cons (i := 6) rfl .nil))))
 refine wp_seq_k fun k4 hk4 => ?_
 refine wp_region_lit ?_
 refine go1 hA rfl rfl rfl (r_loadS (cs := [_, _, _, _, _, _]) (hA.ev rfl) T.ag24 T.sz24 (by exact hS.cellsAt (xs := [_, _, _, _, _, _]) rfl)) ?_; clear hA a; intro a hA
 refine goF hA rfl T.en30 rfl (roomy_calls _ k f t lo hi A c ps (hR.sat hS) (by omega) (hB.sat hS) (by omega)) ?_
 clear hA a; rintro e w ⟨Ap, Ab, cp, cb, qs, rfl, hv, hT⟩; replace hS : Sat _ _ (_ :: _ :: _ :: _) := hS.rebase hT; clear hT; have hqZ := SB_bnd hv; have hql : qs.length = ps.length := (by simpa using congrArg List.length hv)
 refine ⟨_, rfl, ?_⟩; intro a hA
 refine goN hA rfl T.zv52 hS ?_
 clear hA a hS; intro b7 w hS a hA
 refine goWS2 (vs := [_, _, _, _, _, _, _, _]) (cs' := [_, _, _, _, _, _, _, _]) hA rfl rfl T.sz52 (by simp [Value.oneCell']) hS rfl rfl ?_
 clear hS; intro w hS
 refine wpList_nil ?_
 refine hk4 _ _ ?_
 clear hk4 k4
 replace hA := hA.keep (.cons (i := 1) rfl (.cons (i := 2) rfl (.cons (i := 3) rfl (.cons (i := 6) rfl (.cons (i := 7) rfl .nil)))))
 refine wp_seq_k fun k5 hk5 => ?_
 refine wp_region_lit ?_
 refine go1 hA rfl rfl rfl (r_move (hA.ev rfl)) ?_; clear hA a; intro a hA
 refine goF hA rfl T.en31 rfl (room_calls _ A9 c9 bs (hRb.sat hS) (by omega)) ?_
 clear hA a; rintro e w ⟨A8, c8, rfl, hT⟩; replace hS := hS.rebase1 hT; clear hT; obtain ⟨A8_p, rfl⟩ : ∃ p, A8 = some p := hS.rd.hasAddr (by rw [List.length_append, spareN_len]; omega); have hc8 : bs.length ≤ c8 := (by obtain ⟨_, c_, hc0, hcc⟩ := hS.rd.form; injection hc0; rw [List.length_append] at hcc; omega)
 refine ⟨_, rfl, ?_⟩; intro a hA
 refine go1 hA rfl rfl rfl (r_assign (hA.ev rfl)) ?_; clear hA a; intro a hA
 refine wpList_nil ?_
 refine hk5 _ _ ?_
 clear hk5 k5
 replace hA := hA.keep (.cons (i := 1) rfl (.cons (i := 2) rfl (.cons (i := 3) rfl (.cons (i := 6) rfl (.cons (i := 7) rfl (.cons (i := 8) rfl .nil))))))
 refine wp_seq_k fun k6 hk6 => ?_
 refine wp_region_lit ?_
 refine go1 hA rfl rfl rfl (r_loadS (cs := [_, _, _, _, _, _]) (hA.ev rfl) T.ag24 T.sz24 (by exact (hS.p 5).cellsAt (xs := [_, _, _, _, _, _]) rfl)) ?_; clear hA a; intro a hA
 refine go1 hA rfl rfl rfl (r_move (hA.ev rfl)) ?_; clear hA a; intro a hA
 refine go1 hA rfl rfl rfl (r_move (hA.ev rfl)) ?_; clear hA a; intro a hA
 refine goF hA rfl T.en32 rfl (Want_calls _ k f t lo hi A c ps cart A9 c9 bs (hR.sat hS) (by omega) (hB.sat hS) (by omega) (hRb.sat hS) (by omega)) ?_
 clear hA a; rintro e w ⟨wd, rfl, okw, hT⟩; replace hS := hS.rebase1 hT; clear hT
 refine ⟨_, rfl, ?_⟩; intro a hA
 refine goN hA rfl T.zv56 hS ?_
 clear hA a hS; intro b9 w hS a hA
 refine goWS2 (vs := [_, _, _, _, _, _, _, _, _, _, _, _, _, _, _, _, _]) (cs' := [_, _, _, _, _, _, _, _, _, _, _, _, _, _, _, _, _]) hA rfl rfl T.sz56 (by simp [Value.oneCell']) hS rfl rfl ?_
 clear hS; intro w hS
 refine wpList_nil ?_
 refine hk6 _ _ ?_
 clear hk6 k6
 replace hA := hA.keep (.cons (i := 1) rfl (.cons (i := 2) rfl (.cons (i := 3) rfl (.cons (i := 6) rfl (.cons (i := 7) rfl (.cons (i := 8) rfl (.cons (i := 9) rfl .nil)))))))
 refine wp_seq_cut (fun a w => ∃ (b10 : Nat) (one : AskD), Ag a 184 [(1, .int .i64 cart), (2, .slice A9 bs.length c9), (3, .pointer (some ⟨b3, 0, none⟩)), (7, .pointer (some ⟨b7, 0, none⟩)), (8, .slice (some A8_p) (bs ++ spareN 80).length c8), (9, .pointer (some ⟨b9, 0, none⟩)), (10, .pointer (some ⟨b10, 0, none⟩))] ∧ Sat W w ([pto b10 (.cells #[.int .i64 one.chk, .int .i64 (one.sz : Int), .int .i64 one.a.k, .int .i64 one.a.f, .int .i64 one.a.t, .int .i64 0, .int .i64 one.a.hi, .slice none 0 0, .slice one.p.A one.p.b.length one.p.c, .slice one.b.A one.b.b.length one.b.c, .slice one.A one.cs.length one.c, .int .i64 one.g.k, .int .i64 one.g.f, .int .i64 one.g.t, .int .i64 one.g.lo, .int .i64 one.g.hi, .slice one.gA one.gp.length one.gc] 56), one.ch, pto b9 (.cells #[.int .i64 wd.chk, .int .i64 (wd.sz : Int), .int .i64 wd.a.k, .int .i64 wd.a.f, .int .i64 wd.a.t, .int .i64 0, .int .i64 wd.a.hi, .slice none 0 0, .slice wd.p.A wd.p.b.length wd.p.c, .slice wd.b.A wd.b.b.length wd.b.c, .slice wd.A wd.cs.length wd.c, .int .i64 wd.g.k, .int .i64 wd.g.f, .int .i64 wd.g.t, .int .i64 wd.g.lo, .int .i64 wd.g.hi, .slice wd.gA wd.gp.length wd.gc] 56), wd.ch, RB (some A8_p) c8 (bs ++ spareN 80), pto b7 (.cells #[.int .i64 k, .int .i64 f, .int .i64 t, .int .i64 lo, .int .i64 hi, .slice Ap qs.length cp, .slice Ap (qs ++ spWs 80).length cp, .slice Ab qs.length cb] 52), row 49 2 (.slice Ap (qs ++ spWs 80).length cp) (qs ++ spWs 80).length ((qs ++ spWs 80).flatMap encW), row 34 1 (.slice Ab (qs).length cb) (qs).length ((qs).map fun q => (rm q).v), RM qs, pto b3 (.cells #[.int .i64 k, .int .i64 f, .int .i64 t, .int .i64 lo, .int .i64 hi, .slice A ps.length c] 24)]) ∧ (one.ok (mv k f t lo hi ps) ps cart bs)) ?_ ?_
 ·
  skip
  refine xEnterE [7, 9] hS (by kernel_rfl) ?_
  replace hS := hS.drew
  refine K.p1 0 hA (pok_then pok_body) rfl rfl rfl rfl (by kernel_rfl) (by kernel_rfl) (by kernel_rfl) (fun w => (r_field (hA.ev rfl) T.fo52_0)) ?_; clear hA a; intro a hA
  refine K.x1 1 hA (pok_then pok_body) rfl rfl rfl rfl (by kernel_rfl) (by kernel_rfl) (by kernel_rfl) (by kernel_rfl) (by kernel_rfl) (by exact ⟨[], hS⟩) (fun w hT => have hS := hT.sat; (r_loadS (cs := [_, _, _, _, _, _]) (hA.ev rfl) T.ag24 T.sz24 (by exact (hS.p 3).cellsAt (xs := [_, _, _, _, _, _]) rfl))) ?_; clear hA a; intro a hA
  refine K.p1 2 hA (pok_then pok_body) rfl rfl rfl rfl (by kernel_rfl) (by kernel_rfl) (by kernel_rfl) (fun w => (r_move (hA.ev rfl))) ?_; clear hA a; intro a hA
  refine K.p1 3 hA (pok_then pok_body) rfl rfl rfl rfl (by kernel_rfl) (by kernel_rfl) (by kernel_rfl) (fun w => (r_move (hA.ev rfl))) ?_; clear hA a; intro a hA
  refine K.p1 4 hA (pok_then pok_body) rfl rfl rfl rfl (by kernel_rfl) (by kernel_rfl) (by kernel_rfl) (fun w => (r_move (hA.ev rfl))) ?_; clear hA a; intro a hA
  refine K.p1 5 hA (pok_then pok_body) rfl rfl rfl rfl (by kernel_rfl) (by kernel_rfl) (by kernel_rfl) (fun w => (r_lens (hA.ev rfl) T.un34)) ?_; clear hA a; intro a hA
  refine K.p1 6 hA (pok_then pok_body) rfl rfl rfl rfl (by kernel_rfl) (by kernel_rfl) (by kernel_rfl) (fun w => (as_val (r_slice_h (hA.ev rfl) (hA.ev rfl) T.un34 T.sz5 (by omega) (by omega)) (show _ = Value.slice (some A8_p) bs.length c8 from by rw [cutA_zero]; rfl))) ?_; clear hA a; intro a hA
  refine xTwo 7 8 (by kernel_rfl) ?_ ?_
  ·
   skip
   refine eF hA rfl rfl T.en33 rfl (Ask_calls _ k f t lo hi Ap cp qs cart (some A8_p) c8 bs (by exact parts_view (hS.p 4).rd) (by omega) (by exact RM_bod (hS.p 6) (fun q hq => by have h := partsZ_mem hq; omega)) (by omega) (by exact bytes_front (hS.p 2).rd) (by omega)) ?_
   clear hA a; rintro e w ⟨one, rfl, ok1, hT⟩; replace hS := hS.rebase1 hT; clear hT; replace ok1 := ok_val hv ok1
   refine ⟨_, rfl, ?_⟩; intro a hA
   refine ⟨.inl rfl, ?_⟩
   refine xOne 8 (by kernel_rfl) ?_
   refine eN hA rfl rfl T.zv56 hS ?_
   clear hA a hS; intro b10 w hS a hA
   refine ⟨.inr fun _ => (by exact ⟨[_, _], hS⟩), ?_⟩
   refine xOne 9 (by kernel_rfl) ?_
   refine eWS2 (vs := [_, _, _, _, _, _, _, _, _, _, _, _, _, _, _, _, _]) (cs' := [_, _, _, _, _, _, _, _, _, _, _, _, _, _, _, _, _]) hA rfl rfl rfl T.sz56 (by simp [Value.oneCell']) hS rfl rfl ?_
   clear hS; intro w hS
   refine ⟨.inl rfl, ?_⟩
   refine wpAnyX_done (by kernel_rfl) ?_ _
   replace hA := hA.keep (.cons (i := 1) rfl (.cons (i := 2) rfl (.cons (i := 3) rfl (.cons (i := 7) rfl (.cons (i := 8) rfl (.cons (i := 9) rfl (.cons (i := 10) rfl .nil)))))))
   first
    | exact ⟨_, _, hA, hS, (by exact ok1)⟩
  ·
   skip
   refine eN hA rfl rfl T.zv56 hS ?_
   clear hA a hS; intro b10 w hS a hA
   refine ⟨.inr fun _ => (by exact ⟨[_], hS⟩), ?_⟩
   refine xOne 7 (by kernel_rfl) ?_
   refine eF hA rfl rfl T.en33 rfl (Ask_calls _ k f t lo hi Ap cp qs cart (some A8_p) c8 bs (by exact parts_view (hS.p 5).rd) (by omega) (by exact RM_bod (hS.p 7) (fun q hq => by have h := partsZ_mem hq; omega)) (by omega) (by exact bytes_front (hS.p 3).rd) (by omega)) ?_
   clear hA a; rintro e w ⟨one, rfl, ok1, hT⟩; replace hS := hS.rebase1 hT; clear hT; replace ok1 := ok_val hv ok1
   refine ⟨_, rfl, ?_⟩; intro a hA
   refine ⟨.inl rfl, ?_⟩
   refine xOne 9 (by kernel_rfl) ?_
   refine eWS2 (vs := [_, _, _, _, _, _, _, _, _, _, _, _, _, _, _, _, _]) (cs' := [_, _, _, _, _, _, _, _, _, _, _, _, _, _, _, _, _]) hA rfl rfl rfl T.sz56 (by simp [Value.oneCell']) (hS.p 1) rfl rfl ?_
   clear hS; intro w hS
   refine ⟨.inl rfl, ?_⟩
   refine wpAnyX_done (by kernel_rfl) ?_ _
   replace hA := hA.keep (.cons (i := 1) rfl (.cons (i := 2) rfl (.cons (i := 3) rfl (.cons (i := 7) rfl (.cons (i := 8) rfl (.cons (i := 9) rfl (.cons (i := 10) rfl .nil)))))))
   first
    | exact ⟨_, _, hA, hS, (by exact ok1)⟩
 ·
  skip
  intro a w hI
  clear hS hA; obtain ⟨b10, one, hA, hS, ok1⟩ := hI
  refine wp_seq_k fun k7 hk7 => ?_
  refine wp_seq_k fun k8 hk8 => ?_
  refine wp_region_lit ?_
  refine go1 hA rfl rfl rfl (r_loadS (cs := [_, _, _, _, _, _, _, _, _, _, _, _, _, _, _, _, _]) (hA.ev rfl) T.ag56 T.sz56 (by exact hS.cellsAt (xs := [_, _, _, _, _, _, _, _, _, _, _, _, _, _, _, _, _]) rfl)) ?_; clear hA a; intro a hA
  refine go1 hA rfl rfl rfl (r_loadS (cs := [_, _, _, _, _, _, _, _, _, _, _, _, _, _, _, _, _]) (hA.ev rfl) T.ag56 T.sz56 (by exact (hS.p 2).cellsAt (xs := [_, _, _, _, _, _, _, _, _, _, _, _, _, _, _, _, _]) rfl)) ?_; clear hA a; intro a hA
  refine goF hA rfl T.en34 rfl (Like_calls _ one wd (AskD.rd_ok (hS.p 1) ok1 (by omega)) (AskD.rd_ok (hS.p 3) okw (by omega)) ok1 okw rfl (by omega) (by omega) (by omega)) ?_
  clear hA a; rintro e w ⟨rfl, hT⟩; replace hS : Sat _ _ _ := hS.rebase hT; clear hT
  refine ⟨_, rfl, ?_⟩; intro a hA
  refine go1 hA rfl rfl rfl (r_not (hA.ev rfl)) ?_; clear hA a; intro a hA
  refine wpList_nil ?_
  refine hk8 _ _ ?_
  clear hk8 k8
  replace hA := hA.keep (.cons (i := 1) rfl (.cons (i := 2) rfl (.cons (i := 3) rfl (.cons (i := 7) rfl (.cons (i := 8) rfl (.cons (i := 9) rfl (.cons (i := 10) rfl (.cons (i := 39) rfl .nil))))))))
  refine wp_cond_false (hA.ev rfl) ?_
  refine wp_skip ?_
  refine hk7 _ _ ?_
  clear hk7 k7
  replace hA := hA.keep (.cons (i := 1) rfl (.cons (i := 2) rfl (.cons (i := 3) rfl (.cons (i := 7) rfl (.cons (i := 8) rfl (.cons (i := 9) rfl (.cons (i := 10) rfl .nil)))))))
  refine wp_seq_cut (fun a w => ∃ (b11 : Nat) (two : AskD), Ag a 184 [(1, .int .i64 cart), (2, .slice A9 bs.length c9), (3, .pointer (some ⟨b3, 0, none⟩)), (7, .pointer (some ⟨b7, 0, none⟩)), (8, .slice (some A8_p) (bs ++ spareN 80).length c8), (9, .pointer (some ⟨b9, 0, none⟩)), (10, .pointer (some ⟨b10, 0, none⟩)), (11, .pointer (some ⟨b11, 0, none⟩))] ∧ Sat W w ([pto b11 (.cells #[.int .i64 two.chk, .int .i64 (two.sz : Int), .int .i64 two.a.k, .int .i64 two.a.f, .int .i64 two.a.t, .int .i64 0, .int .i64 two.a.hi, .slice none 0 0, .slice two.p.A two.p.b.length two.p.c, .slice two.b.A two.b.b.length two.b.c, .slice two.A two.cs.length two.c, .int .i64 two.g.k, .int .i64 two.g.f, .int .i64 two.g.t, .int .i64 two.g.lo, .int .i64 two.g.hi, .slice two.gA two.gp.length two.gc] 56), two.ch, pto b10 (.cells #[.int .i64 one.chk, .int .i64 (one.sz : Int), .int .i64 one.a.k, .int .i64 one.a.f, .int .i64 one.a.t, .int .i64 0, .int .i64 one.a.hi, .slice none 0 0, .slice one.p.A one.p.b.length one.p.c, .slice one.b.A one.b.b.length one.b.c, .slice one.A one.cs.length one.c, .int .i64 one.g.k, .int .i64 one.g.f, .int .i64 one.g.t, .int .i64 one.g.lo, .int .i64 one.g.hi, .slice one.gA one.gp.length one.gc] 56), one.ch, pto b9 (.cells #[.int .i64 wd.chk, .int .i64 (wd.sz : Int), .int .i64 wd.a.k, .int .i64 wd.a.f, .int .i64 wd.a.t, .int .i64 0, .int .i64 wd.a.hi, .slice none 0 0, .slice wd.p.A wd.p.b.length wd.p.c, .slice wd.b.A wd.b.b.length wd.b.c, .slice wd.A wd.cs.length wd.c, .int .i64 wd.g.k, .int .i64 wd.g.f, .int .i64 wd.g.t, .int .i64 wd.g.lo, .int .i64 wd.g.hi, .slice wd.gA wd.gp.length wd.gc] 56), wd.ch, RB (some A8_p) c8 (bs ++ spareN 80), pto b7 (.cells #[.int .i64 k, .int .i64 f, .int .i64 t, .int .i64 lo, .int .i64 hi, .slice Ap qs.length cp, .slice Ap (qs ++ spWs 80).length cp, .slice Ab qs.length cb] 52), row 49 2 (.slice Ap (qs ++ spWs 80).length cp) (qs ++ spWs 80).length ((qs ++ spWs 80).flatMap encW), row 34 1 (.slice Ab (qs).length cb) (qs).length ((qs).map fun q => (rm q).v), RM qs, pto b3 (.cells #[.int .i64 k, .int .i64 f, .int .i64 t, .int .i64 lo, .int .i64 hi, .slice A ps.length c] 24)]) ∧ (two.ok (mv k f t lo hi ps) ps cart bs)) ?_ ?_
  ·
   skip
   refine xEnterE [7, 9] hS (by kernel_rfl) ?_
   replace hS := hS.drew
   refine K.p1 0 hA (pok_then pok_body) rfl rfl rfl rfl (by kernel_rfl) (by kernel_rfl) (by kernel_rfl) (fun w => (r_field (hA.ev rfl) T.fo52_0)) ?_; clear hA a; intro a hA
   refine K.x1 1 hA (pok_then pok_body) rfl rfl rfl rfl (by kernel_rfl) (by kernel_rfl) (by kernel_rfl) (by kernel_rfl) (by kernel_rfl) (by exact ⟨[], hS⟩) (fun w hT => have hS := hT.sat; (r_loadS (cs := [_, _, _, _, _, _]) (hA.ev rfl) T.ag24 T.sz24 (by exact (hS.p 5).cellsAt (xs := [_, _, _, _, _, _]) rfl))) ?_; clear hA a; intro a hA
   refine K.p1 2 hA (pok_then pok_body) rfl rfl rfl rfl (by kernel_rfl) (by kernel_rfl) (by kernel_rfl) (fun w => (r_move (hA.ev rfl))) ?_; clear hA a; intro a hA
   refine K.p1 3 hA (pok_then pok_body) rfl rfl rfl rfl (by kernel_rfl) (by kernel_rfl) (by kernel_rfl) (fun w => (r_move (hA.ev rfl))) ?_; clear hA a; intro a hA
   refine K.p1 4 hA (pok_then pok_body) rfl rfl rfl rfl (by kernel_rfl) (by kernel_rfl) (by kernel_rfl) (fun w => (r_move (hA.ev rfl))) ?_; clear hA a; intro a hA
   refine K.p1 5 hA (pok_then pok_body) rfl rfl rfl rfl (by kernel_rfl) (by kernel_rfl) (by kernel_rfl) (fun w => (r_lens (hA.ev rfl) T.un34)) ?_; clear hA a; intro a hA
   refine K.p1 6 hA (pok_then pok_body) rfl rfl rfl rfl (by kernel_rfl) (by kernel_rfl) (by kernel_rfl) (fun w => (as_val (r_slice_h (hA.ev rfl) (hA.ev rfl) T.un34 T.sz5 (by omega) (by omega)) (show _ = Value.slice (some A8_p) bs.length c8 from by rw [cutA_zero]; rfl))) ?_; clear hA a; intro a hA
   refine xTwo 7 8 (by kernel_rfl) ?_ ?_
   ·
    skip
    refine eF hA rfl rfl T.en33 rfl (Ask_calls _ k f t lo hi Ap cp qs cart (some A8_p) c8 bs (by exact parts_view (hS.p 6).rd) (by omega) (by exact RM_bod (hS.p 8) (fun q hq => by have h := partsZ_mem hq; omega)) (by omega) (by exact bytes_front (hS.p 4).rd) (by omega)) ?_
    clear hA a; rintro e w ⟨two, rfl, ok2, hT⟩; replace hS := hS.rebase1 hT; clear hT; replace ok2 := ok_val hv ok2
    refine ⟨_, rfl, ?_⟩; intro a hA
    refine ⟨.inl rfl, ?_⟩
    refine xOne 8 (by kernel_rfl) ?_
    refine eN hA rfl rfl T.zv56 hS ?_
    clear hA a hS; intro b11 w hS a hA
    refine ⟨.inr fun _ => (by exact ⟨[_, _], hS⟩), ?_⟩
    refine xOne 9 (by kernel_rfl) ?_
    refine eWS2 (vs := [_, _, _, _, _, _, _, _, _, _, _, _, _, _, _, _, _]) (cs' := [_, _, _, _, _, _, _, _, _, _, _, _, _, _, _, _, _]) hA rfl rfl rfl T.sz56 (by simp [Value.oneCell']) hS rfl rfl ?_
    clear hS; intro w hS
    refine ⟨.inl rfl, ?_⟩
    refine wpAnyX_done (by kernel_rfl) ?_ _
    replace hA := hA.keep (.cons (i := 1) rfl (.cons (i := 2) rfl (.cons (i := 3) rfl (.cons (i := 7) rfl (.cons (i := 8) rfl (.cons (i := 9) rfl (.cons (i := 10) rfl (.cons (i := 11) rfl .nil))))))))
    first
     | exact ⟨_, _, hA, hS, (by exact ok2)⟩
   ·
    skip
    refine eN hA rfl rfl T.zv56 hS ?_
    clear hA a hS; intro b11 w hS a hA
    refine ⟨.inr fun _ => (by exact ⟨[_], hS⟩), ?_⟩
    refine xOne 7 (by kernel_rfl) ?_
    refine eF hA rfl rfl T.en33 rfl (Ask_calls _ k f t lo hi Ap cp qs cart (some A8_p) c8 bs (by exact parts_view (hS.p 7).rd) (by omega) (by exact RM_bod (hS.p 9) (fun q hq => by have h := partsZ_mem hq; omega)) (by omega) (by exact bytes_front (hS.p 5).rd) (by omega)) ?_
    clear hA a; rintro e w ⟨two, rfl, ok2, hT⟩; replace hS := hS.rebase1 hT; clear hT; replace ok2 := ok_val hv ok2
    refine ⟨_, rfl, ?_⟩; intro a hA
    refine ⟨.inl rfl, ?_⟩
    refine xOne 9 (by kernel_rfl) ?_
    refine eWS2 (vs := [_, _, _, _, _, _, _, _, _, _, _, _, _, _, _, _, _]) (cs' := [_, _, _, _, _, _, _, _, _, _, _, _, _, _, _, _, _]) hA rfl rfl rfl T.sz56 (by simp [Value.oneCell']) (hS.p 1) rfl rfl ?_
    clear hS; intro w hS
    refine ⟨.inl rfl, ?_⟩
    refine wpAnyX_done (by kernel_rfl) ?_ _
    replace hA := hA.keep (.cons (i := 1) rfl (.cons (i := 2) rfl (.cons (i := 3) rfl (.cons (i := 7) rfl (.cons (i := 8) rfl (.cons (i := 9) rfl (.cons (i := 10) rfl (.cons (i := 11) rfl .nil))))))))
    first
     | exact ⟨_, _, hA, hS, (by exact ok2)⟩
  ·
   skip
   intro a w hI
   clear hS hA; obtain ⟨b11, two, hA, hS, ok2⟩ := hI
   refine wp_seq_k fun k9 hk9 => ?_
   refine wp_seq_k fun k10 hk10 => ?_
   refine wp_region_lit ?_
   refine go1 hA rfl rfl rfl (r_loadS (cs := [_, _, _, _, _, _, _, _, _, _, _, _, _, _, _, _, _]) (hA.ev rfl) T.ag56 T.sz56 (by exact (hS.p 2).cellsAt (xs := [_, _, _, _, _, _, _, _, _, _, _, _, _, _, _, _, _]) rfl)) ?_; clear hA a; intro a hA
   refine go1 hA rfl rfl rfl (r_loadS (cs := [_, _, _, _, _, _, _, _, _, _, _, _, _, _, _, _, _]) (hA.ev rfl) T.ag56 T.sz56 (by exact (hS.p 4).cellsAt (xs := [_, _, _, _, _, _, _, _, _, _, _, _, _, _, _, _, _]) rfl)) ?_; clear hA a; intro a hA
   refine goF hA rfl T.en34 rfl (Like_calls _ one wd (AskD.rd_ok (hS.p 3) ok1 (by omega)) (AskD.rd_ok (hS.p 5) okw (by omega)) ok1 okw rfl (by omega) (by omega) (by omega)) ?_
   clear hA a; rintro e w ⟨rfl, hT⟩; replace hS : Sat _ _ _ := hS.rebase hT; clear hT
   refine ⟨_, rfl, ?_⟩; intro a hA
   refine go1 hA rfl rfl rfl (r_not (hA.ev rfl)) ?_; clear hA a; intro a hA
   refine go1 hA rfl rfl rfl (r_move (hA.ev rfl)) ?_; clear hA a; intro a hA
   refine go1y hA (wanted_yes hA rfl rfl rfl) rfl rfl (r_loadS (cs := [_, _, _, _, _, _, _, _, _, _, _, _, _, _, _, _, _]) (hA.ev rfl) T.ag56 T.sz56 (by exact hS.cellsAt (xs := [_, _, _, _, _, _, _, _, _, _, _, _, _, _, _, _, _]) rfl)) ?_; clear hA a; intro a hA
   refine go1y hA (wanted_yes hA rfl rfl rfl) rfl rfl (r_loadS (cs := [_, _, _, _, _, _, _, _, _, _, _, _, _, _, _, _, _]) (hA.ev rfl) T.ag56 T.sz56 (by exact (hS.p 4).cellsAt (xs := [_, _, _, _, _, _, _, _, _, _, _, _, _, _, _, _, _]) rfl)) ?_; clear hA a; intro a hA
   refine goFy hA (wanted_yes hA rfl rfl rfl) rfl T.en34 rfl (Like_calls _ two wd (AskD.rd_ok (hS.p 1) ok2 (by omega)) (AskD.rd_ok (hS.p 5) okw (by omega)) ok2 okw rfl (by omega) (by omega) (by omega)) ?_
   clear hA a; rintro e w ⟨rfl, hT⟩; replace hS : Sat _ _ _ := hS.rebase hT; clear hT
   refine ⟨_, rfl, ?_⟩; intro a hA
   refine go1y hA (wanted_yes hA rfl rfl rfl) rfl rfl (r_not (hA.ev rfl)) ?_; clear hA a; intro a hA
   refine go1 hA rfl rfl rfl (r_pick_f (hA.ev rfl) (hA.ev rfl)) ?_; clear hA a; intro a hA
   refine go1 hA rfl rfl rfl (r_move (hA.ev rfl)) ?_; clear hA a; intro a hA
   refine go1y hA (wanted_yes hA rfl rfl rfl) rfl rfl (r_loadS (cs := [_, _, _, _, _, _, _, _]) (hA.ev rfl) T.ag52 T.sz52 (by exact (hS.p 7).cellsAt (xs := [_, _, _, _, _, _, _, _]) rfl)) ?_; clear hA a; intro a hA
   refine go1y hA (wanted_yes hA rfl rfl rfl) rfl rfl (r_loadS (cs := [_, _, _, _, _, _]) (hA.ev rfl) T.ag24 T.sz24 (by exact (hS.p 11).cellsAt (xs := [_, _, _, _, _, _]) rfl)) ?_; clear hA a; intro a hA
   refine goFy hA (wanted_yes hA rfl rfl rfl) rfl T.en35 rfl (sound_calls _ k f t lo hi A c ps Ap Ab cp cb qs (hR.sat hS) (by omega) (hB.sat hS) (by omega) (hS.p 8).rd (hS.p 9).rd (fun i q h => RM_rd (hS.p 10) h) hv (RM_bod (hS.p 10) (fun q hq => by have h := partsZ_mem hq; omega))) ?_
   clear hA a; rintro e w ⟨rfl, hT⟩; replace hS : Sat _ _ _ := hS.rebase hT; clear hT
   refine ⟨_, rfl, ?_⟩; intro a hA
   refine go1y hA (wanted_yes hA rfl rfl rfl) rfl rfl (r_not (hA.ev rfl)) ?_; clear hA a; intro a hA
   refine go1 hA rfl rfl rfl (r_pick_f (hA.ev rfl) (hA.ev rfl)) ?_; clear hA a; intro a hA
   refine go1 hA rfl rfl rfl (r_move (hA.ev rfl)) ?_; clear hA a; intro a hA
   refine go1y hA (wanted_yes hA rfl rfl rfl) rfl rfl (r_move (hA.ev rfl)) ?_; clear hA a; intro a hA
   refine go1y hA (wanted_yes hA rfl rfl rfl) rfl rfl (r_move (hA.ev rfl)) ?_; clear hA a; intro a hA
   refine goFy hA (wanted_yes hA rfl rfl rfl) rfl T.en31 rfl (room_calls _ A9 c9 bs (hRb.sat hS) (by omega)) ?_
   clear hA a; rintro e w ⟨A67, c67, rfl, hT⟩; replace hS := hS.rebase1 hT; clear hT
   refine ⟨_, rfl, ?_⟩; intro a hA
   refine goFy hA (wanted_yes hA rfl rfl rfl) rfl T.en23 rfl (EqB_of _ (some A8_p) c8 (bs ++ spareN 80) A67 c67 (bs ++ spareN 80) rfl (hS.p 7).rd hS.rd (by rw [List.length_append, spareN_len]; omega)) ?_
   clear hA a; rintro e w ⟨rfl, hT⟩; replace hS : Sat _ _ _ := hS.rebase hT; clear hT
   refine ⟨_, rfl, ?_⟩; intro a hA
   refine go1y hA (wanted_yes hA rfl rfl rfl) rfl rfl (r_not (hA.ev rfl)) ?_; clear hA a; intro a hA
   refine go1 hA rfl rfl rfl (r_pick_f (hA.ev rfl) (hA.ev rfl)) ?_; clear hA a; intro a hA
   refine wpList_nil ?_
   refine hk10 _ _ ?_
   clear hk10 k10
   replace hA := hA.keep (.cons (i := 1) rfl (.cons (i := 2) rfl (.cons (i := 7) rfl (.cons (i := 8) rfl (.cons (i := 9) rfl (.cons (i := 10) rfl (.cons (i := 11) rfl (.cons (i := 70) rfl .nil))))))))
   refine wp_cond_false (hA.ev rfl) ?_
   refine wp_skip ?_
   refine hk9 _ _ ?_
   clear hk9 k9
   replace hA := hA.keep (.cons (i := 1) rfl (.cons (i := 2) rfl (.cons (i := 7) rfl (.cons (i := 8) rfl (.cons (i := 9) rfl (.cons (i := 10) rfl (.cons (i := 11) rfl .nil)))))))
   refine wp_seq_k fun k11 hk11 => ?_
   refine wp_region_lit ?_
   refine go1 hA rfl rfl rfl (r_loadS (cs := [_, _, _, _, _, _, _, _]) (hA.ev rfl) T.ag52 T.sz52 (by exact (hS.p 8).cellsAt (xs := [_, _, _, _, _, _, _, _]) rfl)) ?_; clear hA a; intro a hA
   refine goF hA rfl T.en36 rfl (over_calls _ _ _ k f t lo hi Ap Ab cp cb qs ((hS.p 11).p 10) (by omega)) ?_
   clear hA a; clear hS; rintro e w ⟨A2, c2, rs, ns, rfl, hsh, hvn, hS⟩; have hln := shp_len hsh; have hrZ := shp_Z hsh; have hnZ := SB_bnd hvn; have hnl : ns.length = rs.length := (by simpa using congrArg List.length hvn); have hl2 : (qs ++ spWs 80).length = (rs ++ spWs 80).length := (by rw [List.length_append, List.length_append, hln]); have hhb := shp_hb hsh; rw [← hln, hl2, ← hhb] at hS; have hnpl := partsZ_len ns; have hrpz := putV_le (k := k) (f := f) (t := t) (lo := lo) (hi := hi) (ps := rs) (by omega)
   refine ⟨_, rfl, ?_⟩; intro a hA
   refine goN hA rfl T.zv24 hS ?_
   clear hA a hS; intro b12 w hS a hA
   refine goWS2 (vs := [_, _, _, _, _, _]) (cs' := [_, _, _, _, _, _]) hA rfl rfl T.sz24 (by simp [Value.oneCell']) hS rfl rfl ?_
   clear hS; intro w hS
   refine wpList_nil ?_
   refine hk11 _ _ ?_
   clear hk11 k11
   replace hA := hA.keep (.cons (i := 1) rfl (.cons (i := 2) rfl (.cons (i := 7) rfl (.cons (i := 8) rfl (.cons (i := 9) rfl (.cons (i := 10) rfl (.cons (i := 11) rfl (.cons (i := 12) rfl .nil))))))))
   refine wp_seq_k fun k12 hk12 => ?_
   refine wp_region_lit ?_
   refine goL0 hA rfl T.un34 T.el5 hS ?_
   clear hA a hS; intro A73 w hS a hA
   refine go1 hA rfl rfl rfl (r_move (hA.ev rfl)) ?_; clear hA a; intro a hA
   refine goA' hA rfl rfl rfl T.un34 T.el5 rfl hS ((hRb.sat hS).src T.un34 (bcells_one _)) (by omega) (by omega) ?_
   clear hA a hS; intro A75 c75 w hc75 hS a hA
   simp only [Nat.zero_add, List.nil_append] at hS hA
   refine go1 hA rfl rfl rfl (r_assign (hA.ev rfl)) ?_; clear hA a; intro a hA
   refine wpList_nil ?_
   refine hk12 _ _ ?_
   clear hk12 k12
   replace hA := hA.keep (.cons (i := 1) rfl (.cons (i := 2) rfl (.cons (i := 7) rfl (.cons (i := 8) rfl (.cons (i := 9) rfl (.cons (i := 10) rfl (.cons (i := 11) rfl (.cons (i := 12) rfl (.cons (i := 13) rfl .nil)))))))))
   refine wp_seq_k fun k13 hk13 => ?_
   refine wp_seq_k fun k14 hk14 => ?_
   refine wp_region_lit ?_
   refine go1 hA rfl rfl rfl (r_assign (hA.ev rfl)) ?_; clear hA a; intro a hA
   refine wpList_nil ?_
   refine hk14 _ _ ?_
   clear hk14 k14
   refine wp_block ?_
   refine wp_loop_ghost (fun (mm : Nat) a w => ∃ (cs ys : List UInt8) (i : Nat), Ag a 184 [(1, .int .i64 cart), (2, .slice A9 bs.length c9), (7, .pointer (some ⟨b7, 0, none⟩)), (8, .slice (some A8_p) (bs ++ spareN 80).length c8), (9, .pointer (some ⟨b9, 0, none⟩)), (10, .pointer (some ⟨b10, 0, none⟩)), (11, .pointer (some ⟨b11, 0, none⟩)), (12, .pointer (some ⟨b12, 0, none⟩)), (13, .slice A75 bs.length c75), (14, .int .i64 ((i : Nat) : Int))] ∧ Sat W w ([row 5 1 (.slice A75 bs.length c75) bs.length (cs.map bcell), RB (some A8_p) c8 (ys ++ spareN 80), pto b12 (.cells #[.int .i64 k, .int .i64 f, .int .i64 t, .int .i64 lo, .int .i64 hi, .slice A2 ns.length c2] 24), row 49 2 (.slice A2 (ns).length c2) (ns).length ((ns).flatMap encW), SB ns, row 49 2 (.slice Ap (rs ++ spWs 80).length cp) (rs ++ spWs 80).length ((rs ++ spWs 80).flatMap encW), RM rs, pto b11 (.cells #[.int .i64 two.chk, .int .i64 (two.sz : Int), .int .i64 two.a.k, .int .i64 two.a.f, .int .i64 two.a.t, .int .i64 0, .int .i64 two.a.hi, .slice none 0 0, .slice two.p.A two.p.b.length two.p.c, .slice two.b.A two.b.b.length two.b.c, .slice two.A two.cs.length two.c, .int .i64 two.g.k, .int .i64 two.g.f, .int .i64 two.g.t, .int .i64 two.g.lo, .int .i64 two.g.hi, .slice two.gA two.gp.length two.gc] 56), two.ch, pto b10 (.cells #[.int .i64 one.chk, .int .i64 (one.sz : Int), .int .i64 one.a.k, .int .i64 one.a.f, .int .i64 one.a.t, .int .i64 0, .int .i64 one.a.hi, .slice none 0 0, .slice one.p.A one.p.b.length one.p.c, .slice one.b.A one.b.b.length one.b.c, .slice one.A one.cs.length one.c, .int .i64 one.g.k, .int .i64 one.g.f, .int .i64 one.g.t, .int .i64 one.g.lo, .int .i64 one.g.hi, .slice one.gA one.gp.length one.gc] 56), one.ch, pto b9 (.cells #[.int .i64 wd.chk, .int .i64 (wd.sz : Int), .int .i64 wd.a.k, .int .i64 wd.a.f, .int .i64 wd.a.t, .int .i64 0, .int .i64 wd.a.hi, .slice none 0 0, .slice wd.p.A wd.p.b.length wd.p.c, .slice wd.b.A wd.b.b.length wd.b.c, .slice wd.A wd.cs.length wd.c, .int .i64 wd.g.k, .int .i64 wd.g.f, .int .i64 wd.g.t, .int .i64 wd.g.lo, .int .i64 wd.g.hi, .slice wd.gA wd.gp.length wd.gc] 56), wd.ch, pto b7 (.cells #[.int .i64 k, .int .i64 f, .int .i64 t, .int .i64 lo, .int .i64 hi, .slice Ap rs.length cp, .slice Ap (rs ++ spWs 80).length cp, .slice Ab rs.length cb] 52), row 34 1 (.slice Ab (rs).length cb) (rs).length ((rs).map fun q => (rm q).v), pto b3 (.cells #[.int .i64 k, .int .i64 f, .int .i64 t, .int .i64 lo, .int .i64 hi, .slice A ps.length c] 24)]) ∧ (i ≤ bs.length) ∧ (cs.length = bs.length) ∧ (ys.length = bs.length) ∧ (ys.take i = cs.take i) ∧ mm = bs.length - i) bs.length ?_ ?_
   ·
    replace hA := hA.keep (.cons (i := 1) rfl (.cons (i := 2) rfl (.cons (i := 7) rfl (.cons (i := 8) rfl (.cons (i := 9) rfl (.cons (i := 10) rfl (.cons (i := 11) rfl (.cons (i := 12) rfl (.cons (i := 13) rfl (.cons (i := 14) rfl .nil))))))))))
    exact ⟨bs, bs, 0, hA, ((((((((((((((((((hS.p 16).p 16).p 16).p 15).p 15).p 15).p 15).p 15).p 15).p 14).p 14).p 14).p 14).p 14).p 16).p 15).p 16)).drop, (by omega), (by rfl), (by rfl), (by rfl), by omega⟩
   intro m a w hI
   clear hS hA; obtain ⟨cs, ys, i, hA, hS, hix, hcl, hyl, hyc, rfl⟩ := hI
   refine wp_seq_k fun k15 hk15 => ?_
   refine wp_seq_k fun k16 hk16 => ?_
   refine wp_region_lit ?_
   refine go1 hA rfl rfl rfl (r_move (hA.ev rfl)) ?_; clear hA a; intro a hA
   refine go1 hA rfl rfl rfl (r_move (hA.ev rfl)) ?_; clear hA a; intro a hA
   refine go1 hA rfl rfl rfl (r_lens (hA.ev rfl) T.un34) ?_; clear hA a; intro a hA
   refine go1s hA rfl rfl rfl (r_lss (hA.ev rfl) (hA.ev rfl)) ?_ ?_
   ·
    clear hA a; intro h79 a hA
    obtain ⟨A75_p, rfl⟩ : ∃ p, A75 = some p := hS.rd.hasAddr (by omega)
    all_goals
     skip
     refine wpList_nil ?_
     refine hk16 _ _ ?_
     clear hk16 k16
     refine wp_cond_true (hA.ev rfl) ?_
     refine wp_skip ?_
     refine hk15 _ _ ?_
     clear hk15 k15
     refine wp_seq_k fun k17 hk17 => ?_
     refine wp_block ?_
     refine wp_seq_k fun k18 hk18 => ?_
     refine wp_region_lit ?_
     refine go1 hA rfl rfl rfl (r_move (hA.ev rfl)) ?_; clear hA a; intro a hA
     refine go1 hA rfl rfl rfl (r_move (hA.ev rfl)) ?_; clear hA a; intro a hA
     refine go1 hA rfl rfl rfl (r_move (hA.ev rfl)) ?_; clear hA a; intro a hA
     refine go1 hA rfl rfl rfl (r_move (hA.ev rfl)) ?_; clear hA a; intro a hA
     obtain ⟨A9_p, rfl⟩ : ∃ q, A9 = some q := (hRb.sat hS).hasAddr (by omega)
     obtain ⟨x, hx⟩ : ∃ x, bs[(i : Int).toNat]? = some x := ⟨_, List.getElem?_eq_getElem (by omega)⟩
     refine go1 hA rfl rfl rfl (r_index (hA.ev rfl) (hA.ev rfl) T.un34 T.sz5 (by omega) (by omega)) ?_; clear hA a; intro a hA
     refine go1 hA rfl rfl rfl (r_load (hA.ev rfl) T.fl5 (rdl (hRb.sat hS) (map_at hx))) ?_; clear hA a; intro a hA
     refine go1 hA rfl rfl rfl (r_xor (hA.ev rfl) (hA.ev rfl)) ?_; clear hA a; intro a hA
     obtain ⟨y88, hy88⟩ := xor_byte1 x _ rfl
     rw [hy88] at hA
     refine go1 hA rfl rfl rfl (r_index (hA.ev rfl) (hA.ev rfl) T.un34 T.sz5 (by omega) (by omega)) ?_; clear hA a; intro a hA
     refine goWR (i * 1) hA rfl rfl rfl T.fl5 T.sz5 rfl hS (by rw [List.length_map]; omega) ?_
     clear hS; intro w hS
     refine wpList_nil ?_
     refine hk18 _ _ ?_
     clear hk18 k18
     refine wp_seq_k fun k19 hk19 => ?_
     refine wp_seq_k fun k20 hk20 => ?_
     refine wp_region_lit ?_
     refine go1 hA rfl rfl rfl (r_move (hA.ev rfl)) ?_; clear hA a; intro a hA
     refine go1s hA rfl rfl rfl (r_geq (hA.ev rfl) (hA.ev rfl)) ?_ ?_
     ·
      clear hA a; intro h91 a hA
      all_goals
       skip
       refine wpList_nil ?_
       refine hk20 _ _ ?_
       clear hk20 k20
       refine wp_cond_true (hA.ev rfl) ?_
       refine wp_region_lit ?_
       refine go1 hA rfl rfl rfl (r_move (hA.ev rfl)) ?_; clear hA a; intro a hA
       refine go1 hA rfl rfl rfl (r_move (hA.ev rfl)) ?_; clear hA a; intro a hA
       refine go1 hA rfl rfl rfl (r_move (hA.ev rfl)) ?_; clear hA a; intro a hA
       refine go1 hA rfl rfl rfl (r_move (hA.ev rfl)) ?_; clear hA a; intro a hA
       refine go1 hA rfl rfl rfl (r_index (hA.ev rfl) (hA.ev rfl) T.un34 T.sz5 (by omega) (by omega)) ?_; clear hA a; intro a hA
       refine go1 hA rfl rfl rfl (r_load (hA.ev rfl) T.fl5 (rdl (hRb.sat hS) (map_at hx))) ?_; clear hA a; intro a hA
       refine go1 hA rfl rfl rfl (r_index (hA.ev rfl) (hA.ev rfl) T.un34 T.sz5 (by omega) (by omega)) ?_; clear hA a; intro a hA
       refine goWR (i * 1) hA rfl rfl rfl T.fl5 T.sz5 rfl hS (by rw [List.length_set, List.length_map]; omega) ?_
       clear hS; intro w hS
       refine wpList_nil ?_
       refine hk19 _ _ ?_
       clear hk19 k19
       refine wp_region_lit ?_
       obtain ⟨cs2, z, hz, hl2, ht2, hS⟩ : ∃ (cs2 : List UInt8) (z : UInt8), cs2[i]? = some z ∧ cs2.length = bs.length ∧ cs2.take i = cs.take i ∧ Sat W w [row 5 1 (.slice (some A75_p) bs.length c75) bs.length (cs2.map bcell), RB (some A8_p) c8 (ys ++ spareN 80), pto b12 (.cells #[.int .i64 k, .int .i64 f, .int .i64 t, .int .i64 lo, .int .i64 hi, .slice A2 ns.length c2] 24), row 49 2 (.slice A2 (ns).length c2) (ns).length ((ns).flatMap encW), SB ns, row 49 2 (.slice Ap (rs ++ spWs 80).length cp) (rs ++ spWs 80).length ((rs ++ spWs 80).flatMap encW), RM rs, pto b11 (.cells #[.int .i64 two.chk, .int .i64 (two.sz : Int), .int .i64 two.a.k, .int .i64 two.a.f, .int .i64 two.a.t, .int .i64 0, .int .i64 two.a.hi, .slice none 0 0, .slice two.p.A two.p.b.length two.p.c, .slice two.b.A two.b.b.length two.b.c, .slice two.A two.cs.length two.c, .int .i64 two.g.k, .int .i64 two.g.f, .int .i64 two.g.t, .int .i64 two.g.lo, .int .i64 two.g.hi, .slice two.gA two.gp.length two.gc] 56), two.ch, pto b10 (.cells #[.int .i64 one.chk, .int .i64 (one.sz : Int), .int .i64 one.a.k, .int .i64 one.a.f, .int .i64 one.a.t, .int .i64 0, .int .i64 one.a.hi, .slice none 0 0, .slice one.p.A one.p.b.length one.p.c, .slice one.b.A one.b.b.length one.b.c, .slice one.A one.cs.length one.c, .int .i64 one.g.k, .int .i64 one.g.f, .int .i64 one.g.t, .int .i64 one.g.lo, .int .i64 one.g.hi, .slice one.gA one.gp.length one.gc] 56), one.ch, pto b9 (.cells #[.int .i64 wd.chk, .int .i64 (wd.sz : Int), .int .i64 wd.a.k, .int .i64 wd.a.f, .int .i64 wd.a.t, .int .i64 0, .int .i64 wd.a.hi, .slice none 0 0, .slice wd.p.A wd.p.b.length wd.p.c, .slice wd.b.A wd.b.b.length wd.b.c, .slice wd.A wd.cs.length wd.c, .int .i64 wd.g.k, .int .i64 wd.g.f, .int .i64 wd.g.t, .int .i64 wd.g.lo, .int .i64 wd.g.hi, .slice wd.gA wd.gp.length wd.gc] 56), wd.ch, pto b7 (.cells #[.int .i64 k, .int .i64 f, .int .i64 t, .int .i64 lo, .int .i64 hi, .slice Ap rs.length cp, .slice Ap (rs ++ spWs 80).length cp, .slice Ab rs.length cb] 52), row 34 1 (.slice Ab (rs).length cb) (rs).length ((rs).map fun q => (rm q).v), pto b3 (.cells #[.int .i64 k, .int .i64 f, .int .i64 t, .int .i64 lo, .int .i64 hi, .slice A ps.length c] 24)] := by
        rw [Nat.mul_one, ← List.map_set] at hS
        first
         | (rw [← List.map_set] at hS; exact ⟨_, _, List.getElem?_set_self (by rw [List.length_set]; omega), by rw [List.length_set, List.length_set]; omega, by rw [List.take_set_of_le (Nat.le_refl i), List.take_set_of_le (Nat.le_refl i)], hS⟩)
         | exact ⟨_, _, List.getElem?_set_self (by omega), by rw [List.length_set]; omega, by rw [List.take_set_of_le (Nat.le_refl i)], hS⟩
       have hz' : cs2[(i : Int).toNat]? = some z := hz
       refine go1 hA rfl rfl rfl (r_move (hA.ev rfl)) ?_; clear hA a; intro a hA
       refine go1 hA rfl rfl rfl (r_move (hA.ev rfl)) ?_; clear hA a; intro a hA
       refine go1 hA rfl rfl rfl (r_move (hA.ev rfl)) ?_; clear hA a; intro a hA
       refine go1 hA rfl rfl rfl (r_move (hA.ev rfl)) ?_; clear hA a; intro a hA
       refine go1 hA rfl rfl rfl (r_index (hA.ev rfl) (hA.ev rfl) T.un34 T.sz5 (by omega) (by omega)) ?_; clear hA a; intro a hA
       refine go1 hA rfl rfl rfl (r_load (hA.ev rfl) T.fl5 (rdl hS.rd (map_at hz'))) ?_; clear hA a; intro a hA
       refine go1 hA rfl rfl rfl (r_index (hA.ev rfl) (hA.ev rfl) T.un34 T.sz5 (by omega) (by omega)) ?_; clear hA a; intro a hA
       refine goWR (i * 1) hA rfl rfl rfl T.fl5 T.sz5 rfl (hS.p 1) (by rw [List.length_map, List.length_append, spareN_len]; omega) ?_
       clear hS; intro w hS
       refine wpList_nil ?_
       refine block_normal ?_
       refine hk17 _ _ ?_
       clear hk17 k17
       refine wp_region_lit ?_
       refine go1 hA rfl rfl rfl (r_move (hA.ev rfl)) ?_; clear hA a; intro a hA
       refine go1 hA rfl rfl rfl (r_add64 (hA.ev rfl) (hA.ev rfl) (by omega) (by omega)) ?_; clear hA a; intro a hA
       refine go1 hA rfl rfl rfl (r_assign (hA.ev rfl)) ?_; clear hA a; intro a hA
       refine wpList_nil ?_
       replace hA := hA.keep (.cons (i := 1) rfl (.cons (i := 2) rfl (.cons (i := 7) rfl (.cons (i := 8) rfl (.cons (i := 9) rfl (.cons (i := 10) rfl (.cons (i := 11) rfl (.cons (i := 12) rfl (.cons (i := 13) rfl (.cons (i := 14) rfl .nil))))))))))
       have e1 : ((ys ++ spareN 80).map bcell).set (i * 1) (bcell z) = ((ys.set i z) ++ spareN 80).map bcell := by rw [Nat.mul_one, ← List.map_set, set_left (by omega)]
       have e2 : (ys ++ spareN 80).length = ((ys.set i z) ++ spareN 80).length := by simp
       rw [e1, e2] at hS
       exact ⟨bs.length - (i + 1), by omega, cs2, ys.set i z, i + 1, hA, (hS.p 1), by omega, hl2, by rw [List.length_set]; exact hyl, by rw [bk_take_set (by omega), hyc, List.take_add_one, hz, ht2]; rfl, rfl⟩
     ·
      clear hA a; intro h91 a hA
      all_goals
       skip
       refine wpList_nil ?_
       refine hk20 _ _ ?_
       clear hk20 k20
       refine wp_cond_false (hA.ev rfl) ?_
       refine wp_skip ?_
       refine hk19 _ _ ?_
       clear hk19 k19
       refine wp_region_lit ?_
       obtain ⟨cs2, z, hz, hl2, ht2, hS⟩ : ∃ (cs2 : List UInt8) (z : UInt8), cs2[i]? = some z ∧ cs2.length = bs.length ∧ cs2.take i = cs.take i ∧ Sat W w [row 5 1 (.slice (some A75_p) bs.length c75) bs.length (cs2.map bcell), RB (some A8_p) c8 (ys ++ spareN 80), pto b12 (.cells #[.int .i64 k, .int .i64 f, .int .i64 t, .int .i64 lo, .int .i64 hi, .slice A2 ns.length c2] 24), row 49 2 (.slice A2 (ns).length c2) (ns).length ((ns).flatMap encW), SB ns, row 49 2 (.slice Ap (rs ++ spWs 80).length cp) (rs ++ spWs 80).length ((rs ++ spWs 80).flatMap encW), RM rs, pto b11 (.cells #[.int .i64 two.chk, .int .i64 (two.sz : Int), .int .i64 two.a.k, .int .i64 two.a.f, .int .i64 two.a.t, .int .i64 0, .int .i64 two.a.hi, .slice none 0 0, .slice two.p.A two.p.b.length two.p.c, .slice two.b.A two.b.b.length two.b.c, .slice two.A two.cs.length two.c, .int .i64 two.g.k, .int .i64 two.g.f, .int .i64 two.g.t, .int .i64 two.g.lo, .int .i64 two.g.hi, .slice two.gA two.gp.length two.gc] 56), two.ch, pto b10 (.cells #[.int .i64 one.chk, .int .i64 (one.sz : Int), .int .i64 one.a.k, .int .i64 one.a.f, .int .i64 one.a.t, .int .i64 0, .int .i64 one.a.hi, .slice none 0 0, .slice one.p.A one.p.b.length one.p.c, .slice one.b.A one.b.b.length one.b.c, .slice one.A one.cs.length one.c, .int .i64 one.g.k, .int .i64 one.g.f, .int .i64 one.g.t, .int .i64 one.g.lo, .int .i64 one.g.hi, .slice one.gA one.gp.length one.gc] 56), one.ch, pto b9 (.cells #[.int .i64 wd.chk, .int .i64 (wd.sz : Int), .int .i64 wd.a.k, .int .i64 wd.a.f, .int .i64 wd.a.t, .int .i64 0, .int .i64 wd.a.hi, .slice none 0 0, .slice wd.p.A wd.p.b.length wd.p.c, .slice wd.b.A wd.b.b.length wd.b.c, .slice wd.A wd.cs.length wd.c, .int .i64 wd.g.k, .int .i64 wd.g.f, .int .i64 wd.g.t, .int .i64 wd.g.lo, .int .i64 wd.g.hi, .slice wd.gA wd.gp.length wd.gc] 56), wd.ch, pto b7 (.cells #[.int .i64 k, .int .i64 f, .int .i64 t, .int .i64 lo, .int .i64 hi, .slice Ap rs.length cp, .slice Ap (rs ++ spWs 80).length cp, .slice Ab rs.length cb] 52), row 34 1 (.slice Ab (rs).length cb) (rs).length ((rs).map fun q => (rm q).v), pto b3 (.cells #[.int .i64 k, .int .i64 f, .int .i64 t, .int .i64 lo, .int .i64 hi, .slice A ps.length c] 24)] := by
        rw [Nat.mul_one, ← List.map_set] at hS
        first
         | (rw [← List.map_set] at hS; exact ⟨_, _, List.getElem?_set_self (by rw [List.length_set]; omega), by rw [List.length_set, List.length_set]; omega, by rw [List.take_set_of_le (Nat.le_refl i), List.take_set_of_le (Nat.le_refl i)], hS⟩)
         | exact ⟨_, _, List.getElem?_set_self (by omega), by rw [List.length_set]; omega, by rw [List.take_set_of_le (Nat.le_refl i)], hS⟩
       have hz' : cs2[(i : Int).toNat]? = some z := hz
       refine go1 hA rfl rfl rfl (r_move (hA.ev rfl)) ?_; clear hA a; intro a hA
       refine go1 hA rfl rfl rfl (r_move (hA.ev rfl)) ?_; clear hA a; intro a hA
       refine go1 hA rfl rfl rfl (r_move (hA.ev rfl)) ?_; clear hA a; intro a hA
       refine go1 hA rfl rfl rfl (r_move (hA.ev rfl)) ?_; clear hA a; intro a hA
       refine go1 hA rfl rfl rfl (r_index (hA.ev rfl) (hA.ev rfl) T.un34 T.sz5 (by omega) (by omega)) ?_; clear hA a; intro a hA
       refine go1 hA rfl rfl rfl (r_load (hA.ev rfl) T.fl5 (rdl hS.rd (map_at hz'))) ?_; clear hA a; intro a hA
       refine go1 hA rfl rfl rfl (r_index (hA.ev rfl) (hA.ev rfl) T.un34 T.sz5 (by omega) (by omega)) ?_; clear hA a; intro a hA
       refine goWR (i * 1) hA rfl rfl rfl T.fl5 T.sz5 rfl (hS.p 1) (by rw [List.length_map, List.length_append, spareN_len]; omega) ?_
       clear hS; intro w hS
       refine wpList_nil ?_
       refine block_normal ?_
       refine hk17 _ _ ?_
       clear hk17 k17
       refine wp_region_lit ?_
       refine go1 hA rfl rfl rfl (r_move (hA.ev rfl)) ?_; clear hA a; intro a hA
       refine go1 hA rfl rfl rfl (r_add64 (hA.ev rfl) (hA.ev rfl) (by omega) (by omega)) ?_; clear hA a; intro a hA
       refine go1 hA rfl rfl rfl (r_assign (hA.ev rfl)) ?_; clear hA a; intro a hA
       refine wpList_nil ?_
       replace hA := hA.keep (.cons (i := 1) rfl (.cons (i := 2) rfl (.cons (i := 7) rfl (.cons (i := 8) rfl (.cons (i := 9) rfl (.cons (i := 10) rfl (.cons (i := 11) rfl (.cons (i := 12) rfl (.cons (i := 13) rfl (.cons (i := 14) rfl .nil))))))))))
       have e1 : ((ys ++ spareN 80).map bcell).set (i * 1) (bcell z) = ((ys.set i z) ++ spareN 80).map bcell := by rw [Nat.mul_one, ← List.map_set, set_left (by omega)]
       have e2 : (ys ++ spareN 80).length = ((ys.set i z) ++ spareN 80).length := by simp
       rw [e1, e2] at hS
       exact ⟨bs.length - (i + 1), by omega, cs2, ys.set i z, i + 1, hA, (hS.p 1), by omega, hl2, by rw [List.length_set]; exact hyl, by rw [bk_take_set (by omega), hyc, List.take_add_one, hz, ht2]; rfl, rfl⟩
   ·
    clear hA a; intro h79 a hA
    obtain rfl : bs.length = i := by omega
    rw [List.take_of_length_le (by omega), List.take_of_length_le (by omega)] at hyc
    have hyc2 := hyc.symm
    subst hyc2
    have hl8 : (bs ++ spareN 80).length = (cs ++ spareN 80).length := by rw [List.length_append, List.length_append]; omega
    rw [hl8, ← hcl] at hA
    rw [← hcl] at hS
    all_goals
     skip
     refine wpList_nil ?_
     refine hk16 _ _ ?_
     clear hk16 k16
     refine wp_cond_false (hA.ev rfl) ?_
     refine wp_exit ?_
     refine then_exit ?_; clear hk15 k15
     refine then_exit ?_
     refine block_hit ?_
     refine hk13 _ _ ?_
     clear hk13 k13
     replace hA := hA.keep (.cons (i := 1) rfl (.cons (i := 2) rfl (.cons (i := 7) rfl (.cons (i := 8) rfl (.cons (i := 9) rfl (.cons (i := 10) rfl (.cons (i := 11) rfl (.cons (i := 12) rfl (.cons (i := 13) rfl .nil)))))))))
     refine wp_seq_k fun k21 hk21 => ?_
     refine wp_region_lit ?_
     refine go1 hA rfl rfl rfl (r_loadS (cs := [_, _, _, _, _, _]) (hA.ev rfl) T.ag24 T.sz24 (by exact (hS.p 2).cellsAt (xs := [_, _, _, _, _, _]) rfl)) ?_; clear hA a; intro a hA
     refine go1 hA rfl rfl rfl (r_move (hA.ev rfl)) ?_; clear hA a; intro a hA
     refine go1 hA rfl rfl rfl (r_move (hA.ev rfl)) ?_; clear hA a; intro a hA
     refine goF hA rfl T.en32 rfl (Want_calls _ k f t lo hi A2 c2 ns cart A75 c75 cs (hS.p 3).rd (by omega) (BodW.sb (hS.p 4) (fun q hq => by have h := partsZ_mem hq; omega) (Nat.le_refl _)) (by omega) hS.rd (by omega)) ?_
     clear hA a; rintro e w ⟨vd, rfl, okv, hT⟩; replace hS := hS.rebase1 hT; clear hT; replace okv := ok_val hvn okv
     refine ⟨_, rfl, ?_⟩; intro a hA
     refine goN hA rfl T.zv56 hS ?_
     clear hA a hS; intro b15 w hS a hA
     refine goWS2 (vs := [_, _, _, _, _, _, _, _, _, _, _, _, _, _, _, _, _]) (cs' := [_, _, _, _, _, _, _, _, _, _, _, _, _, _, _, _, _]) hA rfl rfl T.sz56 (by simp [Value.oneCell']) hS rfl rfl ?_
     clear hS; intro w hS
     refine wpList_nil ?_
     refine hk21 _ _ ?_
     clear hk21 k21
     replace hA := hA.keep (.cons (i := 1) rfl (.cons (i := 2) rfl (.cons (i := 7) rfl (.cons (i := 8) rfl (.cons (i := 9) rfl (.cons (i := 10) rfl (.cons (i := 11) rfl (.cons (i := 12) rfl (.cons (i := 13) rfl (.cons (i := 15) rfl .nil))))))))))
     refine wp_seq_cut (fun a w => ∃ (b16 : Nat) (three : AskD), Ag a 184 [(7, .pointer (some ⟨b7, 0, none⟩)), (8, .slice (some A8_p) (cs ++ spareN 80).length c8), (9, .pointer (some ⟨b9, 0, none⟩)), (10, .pointer (some ⟨b10, 0, none⟩)), (11, .pointer (some ⟨b11, 0, none⟩)), (12, .pointer (some ⟨b12, 0, none⟩)), (13, .slice A75 cs.length c75), (15, .pointer (some ⟨b15, 0, none⟩)), (16, .pointer (some ⟨b16, 0, none⟩))] ∧ Sat W w ([pto b16 (.cells #[.int .i64 three.chk, .int .i64 (three.sz : Int), .int .i64 three.a.k, .int .i64 three.a.f, .int .i64 three.a.t, .int .i64 0, .int .i64 three.a.hi, .slice none 0 0, .slice three.p.A three.p.b.length three.p.c, .slice three.b.A three.b.b.length three.b.c, .slice three.A three.cs.length three.c, .int .i64 three.g.k, .int .i64 three.g.f, .int .i64 three.g.t, .int .i64 three.g.lo, .int .i64 three.g.hi, .slice three.gA three.gp.length three.gc] 56), three.ch, pto b15 (.cells #[.int .i64 vd.chk, .int .i64 (vd.sz : Int), .int .i64 vd.a.k, .int .i64 vd.a.f, .int .i64 vd.a.t, .int .i64 0, .int .i64 vd.a.hi, .slice none 0 0, .slice vd.p.A vd.p.b.length vd.p.c, .slice vd.b.A vd.b.b.length vd.b.c, .slice vd.A vd.cs.length vd.c, .int .i64 vd.g.k, .int .i64 vd.g.f, .int .i64 vd.g.t, .int .i64 vd.g.lo, .int .i64 vd.g.hi, .slice vd.gA vd.gp.length vd.gc] 56), vd.ch, RB A75 c75 cs, RB (some A8_p) c8 (cs ++ spareN 80), pto b12 (.cells #[.int .i64 k, .int .i64 f, .int .i64 t, .int .i64 lo, .int .i64 hi, .slice A2 ns.length c2] 24), row 49 2 (.slice A2 (ns).length c2) (ns).length ((ns).flatMap encW), SB ns, row 49 2 (.slice Ap (rs ++ spWs 80).length cp) (rs ++ spWs 80).length ((rs ++ spWs 80).flatMap encW), RM rs, pto b11 (.cells #[.int .i64 two.chk, .int .i64 (two.sz : Int), .int .i64 two.a.k, .int .i64 two.a.f, .int .i64 two.a.t, .int .i64 0, .int .i64 two.a.hi, .slice none 0 0, .slice two.p.A two.p.b.length two.p.c, .slice two.b.A two.b.b.length two.b.c, .slice two.A two.cs.length two.c, .int .i64 two.g.k, .int .i64 two.g.f, .int .i64 two.g.t, .int .i64 two.g.lo, .int .i64 two.g.hi, .slice two.gA two.gp.length two.gc] 56), two.ch, pto b10 (.cells #[.int .i64 one.chk, .int .i64 (one.sz : Int), .int .i64 one.a.k, .int .i64 one.a.f, .int .i64 one.a.t, .int .i64 0, .int .i64 one.a.hi, .slice none 0 0, .slice one.p.A one.p.b.length one.p.c, .slice one.b.A one.b.b.length one.b.c, .slice one.A one.cs.length one.c, .int .i64 one.g.k, .int .i64 one.g.f, .int .i64 one.g.t, .int .i64 one.g.lo, .int .i64 one.g.hi, .slice one.gA one.gp.length one.gc] 56), one.ch, pto b9 (.cells #[.int .i64 wd.chk, .int .i64 (wd.sz : Int), .int .i64 wd.a.k, .int .i64 wd.a.f, .int .i64 wd.a.t, .int .i64 0, .int .i64 wd.a.hi, .slice none 0 0, .slice wd.p.A wd.p.b.length wd.p.c, .slice wd.b.A wd.b.b.length wd.b.c, .slice wd.A wd.cs.length wd.c, .int .i64 wd.g.k, .int .i64 wd.g.f, .int .i64 wd.g.t, .int .i64 wd.g.lo, .int .i64 wd.g.hi, .slice wd.gA wd.gp.length wd.gc] 56), wd.ch, pto b7 (.cells #[.int .i64 k, .int .i64 f, .int .i64 t, .int .i64 lo, .int .i64 hi, .slice Ap rs.length cp, .slice Ap (rs ++ spWs 80).length cp, .slice Ab rs.length cb] 52), row 34 1 (.slice Ab (rs).length cb) (rs).length ((rs).map fun q => (rm q).v), pto b3 (.cells #[.int .i64 k, .int .i64 f, .int .i64 t, .int .i64 lo, .int .i64 hi, .slice A ps.length c] 24)]) ∧ (three.ok (mv k f t lo hi rs) rs cart cs)) ?_ ?_
     ·
      skip
      refine xEnterE [7, 9] hS (by kernel_rfl) ?_
      replace hS := hS.drew
      refine K.p1 0 hA (pok_then pok_body) rfl rfl rfl rfl (by kernel_rfl) (by kernel_rfl) (by kernel_rfl) (fun w => (r_field (hA.ev rfl) T.fo52_0)) ?_; clear hA a; intro a hA
      refine K.x1 1 hA (pok_then pok_body) rfl rfl rfl rfl (by kernel_rfl) (by kernel_rfl) (by kernel_rfl) (by kernel_rfl) (by kernel_rfl) (by exact ⟨[], hS⟩) (fun w hT => have hS := hT.sat; (r_loadS (cs := [_, _, _, _, _, _]) (hA.ev rfl) T.ag24 T.sz24 (by exact (hS.p 15).cellsAt (xs := [_, _, _, _, _, _]) rfl))) ?_; clear hA a; intro a hA
      refine K.p1 2 hA (pok_then pok_body) rfl rfl rfl rfl (by kernel_rfl) (by kernel_rfl) (by kernel_rfl) (fun w => (r_move (hA.ev rfl))) ?_; clear hA a; intro a hA
      refine K.p1 3 hA (pok_then pok_body) rfl rfl rfl rfl (by kernel_rfl) (by kernel_rfl) (by kernel_rfl) (fun w => (r_move (hA.ev rfl))) ?_; clear hA a; intro a hA
      refine K.p1 4 hA (pok_then pok_body) rfl rfl rfl rfl (by kernel_rfl) (by kernel_rfl) (by kernel_rfl) (fun w => (r_move (hA.ev rfl))) ?_; clear hA a; intro a hA
      refine K.p1 5 hA (pok_then pok_body) rfl rfl rfl rfl (by kernel_rfl) (by kernel_rfl) (by kernel_rfl) (fun w => (r_lens (hA.ev rfl) T.un34)) ?_; clear hA a; intro a hA
      refine K.p1 6 hA (pok_then pok_body) rfl rfl rfl rfl (by kernel_rfl) (by kernel_rfl) (by kernel_rfl) (fun w => (as_val (r_slice_h (hA.ev rfl) (hA.ev rfl) T.un34 T.sz5 (by omega) (by omega)) (show _ = Value.slice (some A8_p) cs.length c8 from by rw [cutA_zero]; rfl))) ?_; clear hA a; intro a hA
      refine xTwo 7 8 (by kernel_rfl) ?_ ?_
      ·
       skip
       refine eF hA rfl rfl T.en33 rfl (Ask_calls _ k f t lo hi Ap cp rs cart (some A8_p) c8 cs (by exact parts_view (hS.p 7).rd) (by omega) (by exact RM_bod (hS.p 8) (fun q hq => by have h := partsZ_mem hq; omega)) (by omega) (by exact bytes_front (hS.p 3).rd) (by omega)) ?_
       clear hA a; rintro e w ⟨three, rfl, ok3, hT⟩; replace hS := hS.rebase1 hT; clear hT
       refine ⟨_, rfl, ?_⟩; intro a hA
       refine ⟨.inl rfl, ?_⟩
       refine xOne 8 (by kernel_rfl) ?_
       refine eN hA rfl rfl T.zv56 hS ?_
       clear hA a hS; intro b16 w hS a hA
       refine ⟨.inr fun _ => (by exact ⟨[_, _], hS⟩), ?_⟩
       refine xOne 9 (by kernel_rfl) ?_
       refine eWS2 (vs := [_, _, _, _, _, _, _, _, _, _, _, _, _, _, _, _, _]) (cs' := [_, _, _, _, _, _, _, _, _, _, _, _, _, _, _, _, _]) hA rfl rfl rfl T.sz56 (by simp [Value.oneCell']) hS rfl rfl ?_
       clear hS; intro w hS
       refine ⟨.inl rfl, ?_⟩
       refine wpAnyX_done (by kernel_rfl) ?_ _
       replace hA := hA.keep (.cons (i := 7) rfl (.cons (i := 8) rfl (.cons (i := 9) rfl (.cons (i := 10) rfl (.cons (i := 11) rfl (.cons (i := 12) rfl (.cons (i := 13) rfl (.cons (i := 15) rfl (.cons (i := 16) rfl .nil)))))))))
       first
        | exact ⟨_, _, hA, hS, (by exact ok3)⟩
      ·
       skip
       refine eN hA rfl rfl T.zv56 hS ?_
       clear hA a hS; intro b16 w hS a hA
       refine ⟨.inr fun _ => (by exact ⟨[_], hS⟩), ?_⟩
       refine xOne 7 (by kernel_rfl) ?_
       refine eF hA rfl rfl T.en33 rfl (Ask_calls _ k f t lo hi Ap cp rs cart (some A8_p) c8 cs (by exact parts_view (hS.p 8).rd) (by omega) (by exact RM_bod (hS.p 9) (fun q hq => by have h := partsZ_mem hq; omega)) (by omega) (by exact bytes_front (hS.p 4).rd) (by omega)) ?_
       clear hA a; rintro e w ⟨three, rfl, ok3, hT⟩; replace hS := hS.rebase1 hT; clear hT
       refine ⟨_, rfl, ?_⟩; intro a hA
       refine ⟨.inl rfl, ?_⟩
       refine xOne 9 (by kernel_rfl) ?_
       refine eWS2 (vs := [_, _, _, _, _, _, _, _, _, _, _, _, _, _, _, _, _]) (cs' := [_, _, _, _, _, _, _, _, _, _, _, _, _, _, _, _, _]) hA rfl rfl rfl T.sz56 (by simp [Value.oneCell']) (hS.p 1) rfl rfl ?_
       clear hS; intro w hS
       refine ⟨.inl rfl, ?_⟩
       refine wpAnyX_done (by kernel_rfl) ?_ _
       replace hA := hA.keep (.cons (i := 7) rfl (.cons (i := 8) rfl (.cons (i := 9) rfl (.cons (i := 10) rfl (.cons (i := 11) rfl (.cons (i := 12) rfl (.cons (i := 13) rfl (.cons (i := 15) rfl (.cons (i := 16) rfl .nil)))))))))
       first
        | exact ⟨_, _, hA, hS, (by exact ok3)⟩
     ·
      skip
      intro a w hI
      clear hS hA; obtain ⟨b16, three, hA, hS, ok3⟩ := hI
      refine wp_seq_k fun k22 hk22 => ?_
      refine wp_seq_k fun k23 hk23 => ?_
      refine wp_region_lit ?_
      refine go1 hA rfl rfl rfl (r_loadS (cs := [_, _, _, _, _, _, _, _, _, _, _, _, _, _, _, _, _]) (hA.ev rfl) T.ag56 T.sz56 (by exact hS.cellsAt (xs := [_, _, _, _, _, _, _, _, _, _, _, _, _, _, _, _, _]) rfl)) ?_; clear hA a; intro a hA
      refine go1 hA rfl rfl rfl (r_loadS (cs := [_, _, _, _, _, _, _, _, _, _, _, _, _, _, _, _, _]) (hA.ev rfl) T.ag56 T.sz56 (by exact (hS.p 2).cellsAt (xs := [_, _, _, _, _, _, _, _, _, _, _, _, _, _, _, _, _]) rfl)) ?_; clear hA a; intro a hA
      refine goF hA rfl T.en34 rfl (Like_calls _ three vd (AskD.rd_ok (hS.p 1) ok3 (by omega)) (AskD.rd_ok (hS.p 3) okv (by omega)) ok3 okv rfl (by omega) (by omega) (by omega)) ?_
      clear hA a; rintro e w ⟨rfl, hT⟩; replace hS : Sat _ _ _ := hS.rebase hT; clear hT
      refine ⟨_, rfl, ?_⟩; intro a hA
      refine go1 hA rfl rfl rfl (r_not (hA.ev rfl)) ?_; clear hA a; intro a hA
      refine go1 hA rfl rfl rfl (r_move (hA.ev rfl)) ?_; clear hA a; intro a hA
      refine go1y hA (wanted_yes hA rfl rfl rfl) rfl rfl (r_loadS (cs := [_, _, _, _, _, _, _, _, _, _, _, _, _, _, _, _, _]) (hA.ev rfl) T.ag56 T.sz56 (by exact (hS.p 13).cellsAt (xs := [_, _, _, _, _, _, _, _, _, _, _, _, _, _, _, _, _]) rfl)) ?_; clear hA a; intro a hA
      refine go1y hA (wanted_yes hA rfl rfl rfl) rfl rfl (r_loadS (cs := [_, _, _, _, _, _, _, _, _, _, _, _, _, _, _, _, _]) (hA.ev rfl) T.ag56 T.sz56 (by exact (hS.p 15).cellsAt (xs := [_, _, _, _, _, _, _, _, _, _, _, _, _, _, _, _, _]) rfl)) ?_; clear hA a; intro a hA
      refine goFy hA (wanted_yes hA rfl rfl rfl) rfl T.en34 rfl (Like_calls _ one wd (AskD.rd_ok (hS.p 14) ok1 (by omega)) (AskD.rd_ok (hS.p 16) okw (by omega)) ok1 okw rfl (by omega) (by omega) (by omega)) ?_
      clear hA a; rintro e w ⟨rfl, hT⟩; replace hS : Sat _ _ _ := hS.rebase hT; clear hT
      refine ⟨_, rfl, ?_⟩; intro a hA
      refine go1y hA (wanted_yes hA rfl rfl rfl) rfl rfl (r_not (hA.ev rfl)) ?_; clear hA a; intro a hA
      refine go1 hA rfl rfl rfl (r_pick_f (hA.ev rfl) (hA.ev rfl)) ?_; clear hA a; intro a hA
      refine go1 hA rfl rfl rfl (r_move (hA.ev rfl)) ?_; clear hA a; intro a hA
      refine go1y hA (wanted_yes hA rfl rfl rfl) rfl rfl (r_loadS (cs := [_, _, _, _, _, _, _, _, _, _, _, _, _, _, _, _, _]) (hA.ev rfl) T.ag56 T.sz56 (by exact (hS.p 11).cellsAt (xs := [_, _, _, _, _, _, _, _, _, _, _, _, _, _, _, _, _]) rfl)) ?_; clear hA a; intro a hA
      refine go1y hA (wanted_yes hA rfl rfl rfl) rfl rfl (r_loadS (cs := [_, _, _, _, _, _, _, _, _, _, _, _, _, _, _, _, _]) (hA.ev rfl) T.ag56 T.sz56 (by exact (hS.p 15).cellsAt (xs := [_, _, _, _, _, _, _, _, _, _, _, _, _, _, _, _, _]) rfl)) ?_; clear hA a; intro a hA
      refine goFy hA (wanted_yes hA rfl rfl rfl) rfl T.en34 rfl (Like_calls _ two wd (AskD.rd_ok (hS.p 12) ok2 (by omega)) (AskD.rd_ok (hS.p 16) okw (by omega)) ok2 okw rfl (by omega) (by omega) (by omega)) ?_
      clear hA a; rintro e w ⟨rfl, hT⟩; replace hS : Sat _ _ _ := hS.rebase hT; clear hT
      refine ⟨_, rfl, ?_⟩; intro a hA
      refine go1y hA (wanted_yes hA rfl rfl rfl) rfl rfl (r_not (hA.ev rfl)) ?_; clear hA a; intro a hA
      refine go1 hA rfl rfl rfl (r_pick_f (hA.ev rfl) (hA.ev rfl)) ?_; clear hA a; intro a hA
      refine go1 hA rfl rfl rfl (r_move (hA.ev rfl)) ?_; clear hA a; intro a hA
      refine go1y hA (wanted_yes hA rfl rfl rfl) rfl rfl (r_loadS (cs := [_, _, _, _, _, _, _, _]) (hA.ev rfl) T.ag52 T.sz52 (by exact (hS.p 17).cellsAt (xs := [_, _, _, _, _, _, _, _]) rfl)) ?_; clear hA a; intro a hA
      refine go1y hA (wanted_yes hA rfl rfl rfl) rfl rfl (r_loadS (cs := [_, _, _, _, _, _]) (hA.ev rfl) T.ag24 T.sz24 (by exact (hS.p 6).cellsAt (xs := [_, _, _, _, _, _]) rfl)) ?_; clear hA a; intro a hA
      refine goFy hA (wanted_yes hA rfl rfl rfl) rfl T.en35 rfl (sound_calls _ k f t lo hi A2 c2 ns Ap Ab cp cb rs (hS.p 7).rd (by omega) (BodW.sb (hS.p 8) (fun q hq => by have h := partsZ_mem hq; omega) (Nat.le_refl _)) (by omega) (hS.p 9).rd (hS.p 18).rd (fun i q h => RM_rd (hS.p 10) h) hvn.symm (RM_bod (hS.p 10) (fun q hq => by have h := partsZ_mem hq; omega))) ?_
      clear hA a; rintro e w ⟨rfl, hT⟩; replace hS : Sat _ _ _ := hS.rebase hT; clear hT
      refine ⟨_, rfl, ?_⟩; intro a hA
      refine go1y hA (wanted_yes hA rfl rfl rfl) rfl rfl (r_not (hA.ev rfl)) ?_; clear hA a; intro a hA
      refine go1 hA rfl rfl rfl (r_pick_f (hA.ev rfl) (hA.ev rfl)) ?_; clear hA a; intro a hA
      refine go1 hA rfl rfl rfl (r_move (hA.ev rfl)) ?_; clear hA a; intro a hA
      refine go1y hA (wanted_yes hA rfl rfl rfl) rfl rfl (r_move (hA.ev rfl)) ?_; clear hA a; intro a hA
      refine go1y hA (wanted_yes hA rfl rfl rfl) rfl rfl (r_move (hA.ev rfl)) ?_; clear hA a; intro a hA
      refine goFy hA (wanted_yes hA rfl rfl rfl) rfl T.en31 rfl (room_calls _ A75 c75 cs (hS.p 4).rd (by omega)) ?_
      clear hA a; rintro e w ⟨A143, c143, rfl, hT⟩; replace hS := hS.rebase1 hT; clear hT
      refine ⟨_, rfl, ?_⟩; intro a hA
      refine goFy hA (wanted_yes hA rfl rfl rfl) rfl T.en23 rfl (EqB_of _ (some A8_p) c8 (cs ++ spareN 80) A143 c143 (cs ++ spareN 80) rfl (hS.p 6).rd hS.rd (by rw [List.length_append, spareN_len]; omega)) ?_
      clear hA a; rintro e w ⟨rfl, hT⟩; replace hS : Sat _ _ _ := hS.rebase hT; clear hT
      refine ⟨_, rfl, ?_⟩; intro a hA
      refine go1y hA (wanted_yes hA rfl rfl rfl) rfl rfl (r_not (hA.ev rfl)) ?_; clear hA a; intro a hA
      refine go1 hA rfl rfl rfl (r_pick_f (hA.ev rfl) (hA.ev rfl)) ?_; clear hA a; intro a hA
      refine wpList_nil ?_
      refine hk23 _ _ ?_
      clear hk23 k23
      replace hA := hA.keep (.cons (i := 7) rfl (.cons (i := 8) rfl (.cons (i := 10) rfl (.cons (i := 11) rfl (.cons (i := 12) rfl (.cons (i := 13) rfl (.cons (i := 16) rfl (.cons (i := 146) rfl .nil))))))))
      refine wp_cond_false (hA.ev rfl) ?_
      refine wp_skip ?_
      refine hk22 _ _ ?_
      clear hk22 k22
      replace hA := hA.keep (.cons (i := 7) rfl (.cons (i := 8) rfl (.cons (i := 10) rfl (.cons (i := 11) rfl (.cons (i := 12) rfl (.cons (i := 13) rfl (.cons (i := 16) rfl .nil)))))))
      refine wp_seq_k fun k24 hk24 => ?_
      refine wp_region_lit ?_
      refine go1 hA rfl rfl rfl (r_build hA rfl T.bd66_) ?_; clear hA a; intro a hA
      refine goB hA rfl rfl hS ?_
      clear hA a hS; intro b148 w hS a hA
      refine go1 hA rfl rfl rfl (r_assign (hA.ev rfl)) ?_; clear hA a; intro a hA
      refine wpList_nil ?_
      refine hk24 _ _ ?_
      clear hk24 k24
      replace hA := hA.keep (.cons (i := 7) rfl (.cons (i := 8) rfl (.cons (i := 10) rfl (.cons (i := 11) rfl (.cons (i := 12) rfl (.cons (i := 13) rfl (.cons (i := 16) rfl (.cons (i := 17) rfl .nil))))))))
      refine wp_seq_k fun k25 hk25 => ?_
      refine wp_region_lit ?_
      have hg1 := AskD.gl ok1
      have hg2 := AskD.gl ok2
      have hg3 := AskD.gl ok3
      have hivb : ∀ x ∈ [one.iv, two.iv, three.iv], x.n ≤ 1000000000 := by
       intro x hx
       simp only [List.mem_cons, List.mem_nil_iff, or_false] at hx
       rcases hx with rfl | rfl | rfl
       ·
        exact AskD.iv_le ok1 (by omega)
       ·
        exact AskD.iv_le ok2 (by omega)
       ·
        exact AskD.iv_le ok3 (by omega)
      have htxb : ∀ x ∈ one.tx ++ two.tx ++ three.tx, x.n ≤ 1000000000 := by
       intro x hx
       rcases List.mem_append.1 hx with hx | hx
       ·
        rcases List.mem_append.1 hx with hx | hx
        ·
         exact AskD.tx_le ok1 (by omega) (by omega) x hx
        ·
         exact AskD.tx_le ok2 (by omega) (by omega) x hx
       ·
        exact AskD.tx_le ok3 (by omega) (by omega) x hx
      have hpvb : ∀ x ∈ [one.pv, two.pv, three.pv], x.n ≤ 1000000000 := by
       intro x hx
       simp only [List.mem_cons, List.mem_nil_iff, or_false] at hx
       rcases hx with rfl | rfl | rfl
       ·
        show one.gp.length ≤ _; omega
       ·
        show two.gp.length ≤ _; omega
       ·
        show three.gp.length ≤ _; omega
      refine go1 hA rfl rfl rfl (r_loadS (cs := [_, _, _, _, _, _, _, _, _, _, _, _, _, _, _, _, _]) (hA.ev rfl) T.ag56 T.sz56 (by exact (hS.p 15).cellsAt (xs := [_, _, _, _, _, _, _, _, _, _, _, _, _, _, _, _, _]) rfl)) ?_; clear hA a; intro a hA
      refine go1 hA rfl rfl rfl (r_move (hA.ev rfl)) ?_; clear hA a; intro a hA
      refine goF hA rfl T.en37 rfl (into_calls _ _ _ b148 one none none 0 0 [] [] (((((hS.row_nil 32 1).row_nil 34 1).p 1).p 1).p 2) (fun w h => (AskD.rd_ok (h.p 15) ok1 (by omega)).2.2.2.1) (by (simp; done)) (by simp) (by omega)) ?_
      clear hA a; clear hS; rintro e w ⟨At, Ai, ct, ci, rfl, hS⟩
      refine ⟨_, rfl, ?_⟩; intro a hA
      refine wpList_nil ?_
      refine hk25 _ _ ?_
      clear hk25 k25
      replace hA := hA.keep (.cons (i := 7) rfl (.cons (i := 8) rfl (.cons (i := 10) rfl (.cons (i := 11) rfl (.cons (i := 12) rfl (.cons (i := 13) rfl (.cons (i := 16) rfl (.cons (i := 17) rfl .nil))))))))
      refine wp_seq_k fun k26 hk26 => ?_
      refine wp_region_lit ?_
      refine go1 hA rfl rfl rfl (r_loadS (cs := [_, _, _, _, _, _, _, _, _, _, _, _, _, _, _, _, _]) (hA.ev rfl) T.ag56 T.sz56 (by exact (hS.p 15).cellsAt (xs := [_, _, _, _, _, _, _, _, _, _, _, _, _, _, _, _, _]) rfl)) ?_; clear hA a; intro a hA
      refine go1 hA rfl rfl rfl (r_move (hA.ev rfl)) ?_; clear hA a; intro a hA
      refine goF hA rfl T.en37 rfl (into_calls _ _ _ b148 two At Ai ct ci ([] ++ one.tx.map VW.v) ([] ++ [one.iv.v]) hS (fun w h => (AskD.rd_ok (h.p 13) ok2 (by omega)).2.2.2.1) (by (simp only [List.length_append, List.length_map, AskD.tx_len, List.length_nil]; omega)) (by simp) (by omega)) ?_
      clear hA a; clear hS; rintro e w ⟨At, Ai, ct, ci, rfl, hS⟩
      refine ⟨_, rfl, ?_⟩; intro a hA
      refine wpList_nil ?_
      refine hk26 _ _ ?_
      clear hk26 k26
      replace hA := hA.keep (.cons (i := 7) rfl (.cons (i := 8) rfl (.cons (i := 10) rfl (.cons (i := 11) rfl (.cons (i := 12) rfl (.cons (i := 13) rfl (.cons (i := 16) rfl (.cons (i := 17) rfl .nil))))))))
      refine wp_seq_k fun k27 hk27 => ?_
      refine wp_region_lit ?_
      refine go1 hA rfl rfl rfl (r_loadS (cs := [_, _, _, _, _, _, _, _, _, _, _, _, _, _, _, _, _]) (hA.ev rfl) T.ag56 T.sz56 (by exact (hS.p 4).cellsAt (xs := [_, _, _, _, _, _, _, _, _, _, _, _, _, _, _, _, _]) rfl)) ?_; clear hA a; intro a hA
      refine go1 hA rfl rfl rfl (r_move (hA.ev rfl)) ?_; clear hA a; intro a hA
      refine goF hA rfl T.en37 rfl (into_calls _ _ _ b148 three At Ai ct ci ([] ++ one.tx.map VW.v ++ two.tx.map VW.v) ([] ++ [one.iv.v] ++ [two.iv.v]) hS (fun w h => (AskD.rd_ok (h.p 2) ok3 (by omega)).2.2.2.1) (by (simp only [List.length_append, List.length_map, AskD.tx_len, List.length_nil]; omega)) (by simp) (by omega)) ?_
      clear hA a; clear hS; rintro e w ⟨At, Ai, ct, ci, rfl, hS⟩
      refine ⟨_, rfl, ?_⟩; intro a hA
      refine wpList_nil ?_
      refine hk27 _ _ ?_
      clear hk27 k27
      replace hA := hA.keep (.cons (i := 7) rfl (.cons (i := 8) rfl (.cons (i := 10) rfl (.cons (i := 11) rfl (.cons (i := 12) rfl (.cons (i := 13) rfl (.cons (i := 16) rfl (.cons (i := 17) rfl .nil))))))))
      refine wp_seq_k fun k28 hk28 => ?_
      refine wp_seq_k fun k29 hk29 => ?_
      refine wp_region_lit ?_
      have hS := book_join ((((((hS.p 5).p 16).p 18).p 5).p 5).p 5)
      rw [show ([] ++ one.tx.map VW.v ++ two.tx.map VW.v ++ three.tx.map VW.v) = (one.tx ++ two.tx ++ three.tx).map VW.v from by rw [List.map_append, List.map_append, List.nil_append]] at hS
      refine go1 hA rfl rfl rfl (r_move (hA.ev rfl)) ?_; clear hA a; intro a hA
      refine goF hA rfl T.en38 rfl (Apart_calls _ _ _ b148 _ _ _ [one.iv, two.iv, three.iv] _ _ _ (one.tx ++ two.tx ++ three.tx) hS rfl (by simp) hivb (by rw [List.length_map]) (by rw [List.length_map, List.length_append, List.length_append, AskD.tx_len, AskD.tx_len, AskD.tx_len]; omega) htxb) ?_
      clear hA a; clear hS; rintro e w ⟨rfl, hS⟩
      refine ⟨_, rfl, ?_⟩; intro a hA
      refine go1 hA rfl rfl rfl (r_not (hA.ev rfl)) ?_; clear hA a; intro a hA
      refine go1 hA rfl rfl rfl (r_move (hA.ev rfl)) ?_; clear hA a; intro a hA
      refine go1y hA (wanted_yes hA rfl rfl rfl) rfl rfl (r_field (hA.ev rfl) T.fo56_6) ?_; clear hA a; intro a hA
      refine go1y hA (wanted_yes hA rfl rfl rfl) rfl rfl (r_field (hA.ev rfl) T.fo24_5) ?_; clear hA a; intro a hA
      refine go1y hA (wanted_yes hA rfl rfl rfl) rfl rfl (r_load (hA.ev rfl) T.fl22 (by exact (hS.p 14).cell rfl)) ?_; clear hA a; intro a hA
      refine go1y hA (wanted_yes hA rfl rfl rfl) rfl rfl (r_field (hA.ev rfl) T.fo56_6) ?_; clear hA a; intro a hA
      refine go1y hA (wanted_yes hA rfl rfl rfl) rfl rfl (r_field (hA.ev rfl) T.fo24_5) ?_; clear hA a; intro a hA
      refine go1y hA (wanted_yes hA rfl rfl rfl) rfl rfl (r_load (hA.ev rfl) T.fl22 (by exact (hS.p 13).cell rfl)) ?_; clear hA a; intro a hA
      refine go1y hA (wanted_yes hA rfl rfl rfl) rfl rfl (r_field (hA.ev rfl) T.fo56_6) ?_; clear hA a; intro a hA
      refine go1y hA (wanted_yes hA rfl rfl rfl) rfl rfl (r_field (hA.ev rfl) T.fo24_5) ?_; clear hA a; intro a hA
      refine go1y hA (wanted_yes hA rfl rfl rfl) rfl rfl (r_load (hA.ev rfl) T.fl22 (by exact (hS.p 3).cell rfl)) ?_; clear hA a; intro a hA
      refine goLy hA (wanted_yes hA rfl rfl rfl) rfl rfl T.un69 T.el22 rfl rfl rfl (by simp [Value.oneCell']) hS ?_
      clear hA a hS; intro A171 w hS a hA
      refine goFy hA (wanted_yes hA rfl rfl rfl) rfl T.en39 rfl (partsApart_calls _ _ _ A171 3 3 [one.pv, two.pv, three.pv] ((hS.p 2).p 1) rfl (by omega) hpvb) ?_
      clear hA a; clear hS; rintro e w ⟨rfl, hS⟩
      refine ⟨_, rfl, ?_⟩; intro a hA
      refine go1y hA (wanted_yes hA rfl rfl rfl) rfl rfl (r_not (hA.ev rfl)) ?_; clear hA a; intro a hA
      refine go1 hA rfl rfl rfl (r_pick_f (hA.ev rfl) (hA.ev rfl)) ?_; clear hA a; intro a hA
      refine wpList_nil ?_
      refine hk29 _ _ ?_
      clear hk29 k29
      replace hA := hA.keep (.cons (i := 7) rfl (.cons (i := 8) rfl (.cons (i := 12) rfl (.cons (i := 13) rfl (.cons (i := 174) rfl .nil)))))
      refine wp_cond_false (hA.ev rfl) ?_
      refine wp_skip ?_
      refine hk28 _ _ ?_
      clear hk28 k28
      replace hA := hA.keep (.cons (i := 7) rfl (.cons (i := 8) rfl (.cons (i := 12) rfl (.cons (i := 13) rfl .nil))))
      refine wp_seq_k fun k30 hk30 => ?_
      refine wp_region_lit ?_
      refine go1 hA rfl rfl rfl (r_loadS (cs := [_, _, _, _, _, _, _, _]) (hA.ev rfl) T.ag52 T.sz52 (by exact (hS.p 16).cellsAt (xs := [_, _, _, _, _, _, _, _]) rfl)) ?_; clear hA a; intro a hA
      refine go1 hA rfl rfl rfl (r_loadS (cs := [_, _, _, _, _, _]) (hA.ev rfl) T.ag24 T.sz24 (by exact (hS.p 7).cellsAt (xs := [_, _, _, _, _, _]) rfl)) ?_; clear hA a; intro a hA
      refine goF hA rfl T.en35 rfl (sound_calls _ k f t lo hi A2 c2 ns Ap Ab cp cb rs (hS.p 8).rd (by omega) (BodW.sb (hS.p 9) (fun q hq => by have h := partsZ_mem hq; omega) (Nat.le_refl _)) (by omega) (hS.p 10).rd (hS.p 17).rd (fun i q h => RM_rd (hS.p 11) h) hvn.symm (RM_bod (hS.p 11) (fun q hq => by have h := partsZ_mem hq; omega))) ?_
      clear hA a; rintro e w ⟨rfl, hT⟩; replace hS : Sat _ _ _ := hS.rebase hT; clear hT
      refine ⟨_, rfl, ?_⟩; intro a hA
      refine go1b hA rfl rfl rfl (r_move (hA.ev rfl)) ?_ ?_
      ·
       clear hA a; intro h178 a hA
       try simp only [decide_eq_decide, decide_eq_true_eq, decide_eq_false_iff_not, Bool.not_eq_true', Bool.not_eq_false', bne_iff_ne, ne_eq, beq_iff_eq, Bool.not_eq_true, Bool.not_eq_false] at h178
       all_goals
        skip
        refine go1y hA (wanted_yes hA rfl rfl rfl) rfl rfl (r_move (hA.ev rfl)) ?_; clear hA a; intro a hA
        refine go1y hA (wanted_yes hA rfl rfl rfl) rfl rfl (r_move (hA.ev rfl)) ?_; clear hA a; intro a hA
        refine goFy hA (wanted_yes hA rfl rfl rfl) rfl T.en31 rfl (room_calls _ A75 c75 cs (hS.p 5).rd (by omega)) ?_
        clear hA a; rintro e w ⟨A181, c181, rfl, hT⟩; replace hS := hS.rebase1 hT; clear hT
        refine ⟨_, rfl, ?_⟩; intro a hA
        refine goFy hA (wanted_yes hA rfl rfl rfl) rfl T.en23 rfl (EqB_of _ (some A8_p) c8 (cs ++ spareN 80) A181 c181 (cs ++ spareN 80) rfl (hS.p 7).rd hS.rd (by rw [List.length_append, spareN_len]; omega)) ?_
        clear hA a; rintro e w ⟨rfl, hT⟩; replace hS : Sat _ _ _ := hS.rebase hT; clear hT
        refine ⟨_, rfl, ?_⟩; intro a hA
        refine go1 hA rfl rfl rfl (r_pick_t (hA.ev rfl) (hA.ev rfl)) ?_; clear hA a; intro a hA
        refine go1 hA rfl rfl rfl (r_assign (hA.ev rfl)) ?_; clear hA a; intro a hA
        refine wpList_nil ?_
        refine hk30 _ _ ?_
        clear hk30 k30
        replace hA := hA.keep (.cons (i := 6) rfl .nil)
        refine wp_ret ?_
        refine end1 hA rfl rfl ?_
        exact ⟨rfl, Sat.none_ hS⟩
      ·
       clear hA a; intro h178 a hA
       try simp only [decide_eq_decide, decide_eq_true_eq, decide_eq_false_iff_not, Bool.not_eq_true', Bool.not_eq_false', bne_iff_ne, ne_eq, beq_iff_eq, Bool.not_eq_true, Bool.not_eq_false] at h178
       try (contradiction)
       all_goals
        skip
        refine goS hA (wanted_no hA rfl rfl rfl rfl) rfl rfl ?_; clear hA a; intro a hA
        refine goS hA (wanted_no hA rfl rfl rfl rfl) rfl rfl ?_; clear hA a; intro a hA
        refine goS hA (wanted_no hA rfl rfl rfl rfl) rfl rfl ?_; clear hA a; intro a hA
        refine goS hA (wanted_no hA rfl rfl rfl rfl) rfl rfl ?_; clear hA a; intro a hA
        refine go1 hA rfl rfl rfl (r_pick_f (hA.ev rfl) (hA.ev rfl)) ?_; clear hA a; intro a hA
        refine go1 hA rfl rfl rfl (r_assign (hA.ev rfl)) ?_; clear hA a; intro a hA
        refine wpList_nil ?_
        refine hk30 _ _ ?_
        clear hk30 k30
        replace hA := hA.keep (.cons (i := 6) rfl .nil)
        refine wp_ret ?_
        refine end1 hA rfl rfl ?_
        exact ⟨rfl, Sat.none_ hS⟩
end Go.Proofs.Ytfbdcllbgfohdaa.Wk
set_option linter.unusedVariables false
set_option linter.unusedSimpArgs false
namespace Go.Proofs.Ytfbdcllbgfohdaa.K
open Go Go.RowKit
theorem flat_of {α : Type} {css : List (List Value)} {zs : List α} (enc : α → List Value) (hl : css.length = zs.length) (h : ∀ (i : Nat) (x : List Value) (a : α), css[i]? = some x → zs[i]? = some a → x = enc a) : css = zs.map enc := by
 refine List.ext_getElem? fun i => ?_
 rw [List.getElem?_map]
 cases ho : zs[i]? with
 | none => simp at ho; simp; omega
 | some o =>
   have hil := (List.getElem?_eq_some_iff.1 ho).1
   have hx := List.getElem?_eq_getElem (show i < css.length by omega)
   rw [hx, h i _ o hx ho]; rfl
theorem all_of {α : Type} {css : List (List Value)} {zs : List α} {p : α → Prop} (hl : css.length = zs.length) (h : ∀ (i : Nat) (x : List Value) (a : α), css[i]? = some x → zs[i]? = some a → p a) : ∀ a ∈ zs, p a := fun o ho => by
 obtain ⟨i, hi⟩ := List.mem_iff_getElem?.1 ho
 have hil : i < zs.length := (List.getElem?_eq_some_iff.1 hi).1
 exact h i _ o (List.getElem?_eq_getElem (show i < css.length by omega)) hi
theorem sum_ge {α : Type} {f : α → Nat} (hf : ∀ x, 1 ≤ f x) : ∀ l : List α, l.length ≤ (l.map f).sum
 | [] => Nat.le_refl _
 | x :: l => by
   have := sum_ge hf l
   have := hf x
   simp only [List.map_cons, List.sum_cons, List.length_cons]
   omega
def In64 (x : Int) : Prop := -9223372036854775808 ≤ x ∧ x ≤ 9223372036854775807
theorem in64_of {x : Int} (h : (Lit.int .i64 x).wf = true) : In64 x := by
 simp [Lit.wf, IntKind.min, IntKind.max, IntKind.signed, IntKind.bits] at h
 unfold In64; omega
theorem in8_of {x : Int} (h : (Lit.int .u8 x).wf = true) : 0 ≤ x ∧ x ≤ 255 := by
 simp [Lit.wf, IntKind.min, IntKind.max, IntKind.signed, IntKind.bits] at h
 omega
/-- A slice of structs of scalars. -/
theorem Opn.list {P : Program} {W : World} {t e sz by_ : Nat} {α : Type} {encA : α → List Value} {R : α → Prop} {wb : α → Prop} {bk : α → Nat} (ht : P.underlying t = some (.slice e)) (hs : P.cellsOf t = 1) (hb : P.bytesOf e = by_) (h : Opn P W e sz (fun cs a => cs = encA a ∧ R a) wb bk) :
 Opn P W t 1 (fun cs (az : List α) => ∃ A c, cs = [.slice A az.length c] ∧ Rd W sz (.slice A az.length c) az.length (az.flatMap encA) ∧ ∀ a ∈ az, R a) (fun az => az.length * by_ ≤ reachBytes ∧ ∀ a ∈ az, wb a) (fun az => (az.map bk).sum + 1) := by
 have h := Opn.slice ht hs hb h
 refine ⟨h.size, fun enc B hB fuel cs d p e => ?_⟩
 obtain ⟨xs, ⟨A, c, css, h5, hc, hR, hcl, _, hrel⟩, hw, hbk⟩ := h.open_ enc B hB fuel cs d p e
 have hcs := flat_of encA hcl fun i x a h1 h2 => (hrel i x a h1 h2).1
 rw [hcs, ← List.flatMap_def] at hR
 exact ⟨xs, ⟨A, c, h5, hR, all_of hcl fun i x a h1 h2 => (hrel i x a h1 h2).2⟩, hw, hbk⟩
end Go.Proofs.Ytfbdcllbgfohdaa.K
set_option linter.unusedVariables false
set_option linter.unusedSimpArgs false
namespace Go.Proofs.Ytfbdcllbgfohdaa.Wk
open Go Go.RowKit Go.Proofs.Ytfbdcllbgfohdaa.K
theorem opnBs (W : World) : Opn Try.prog W 34 1 (fun cs (f : FrD) => cs = [f.v] ∧ f.ok W) (fun f => f.b.length ≤ 140737488355328) (fun f => f.b.length + 1) := by
 have hi := Opn.int (P := Try.prog) (W := W) (t := 5) (k := .u8) (by kernel_rfl) (by kernel_rfl)
 have h := Opn.slice (P := Try.prog) (W := W) (t := 34) (by_ := 1) (by kernel_rfl) (by kernel_rfl) (by kernel_rfl) hi
 refine ⟨h.size, fun enc B hB fuel cs d p e => ?_⟩
 obtain ⟨xs, ⟨A, c, css, h5, hc, hR, hcl, _, hrel⟩, hw, hbk⟩ := h.open_ enc B hB fuel cs d p e
 have hcs := flat_of (fun x => [Value.int .u8 x]) hcl fun i x a h1 h2 => (hrel i x a h1 h2).1
 have hal : ∀ x ∈ xs, 0 ≤ x ∧ x ≤ 255 := all_of hcl fun i x a h1 h2 => in8_of (hrel i x a h1 h2).2
 have e2 : List.flatten (xs.map fun x => [Value.int .u8 x]) = (xs.map b8).map bcell := by
  clear hR hcs hbk hrel hcl hw h5 e
  induction xs with
  | nil => rfl
  | cons x xs ih =>
    have h0 := hal x List.mem_cons_self
    simp only [List.map_cons, List.flatten_cons, ih (fun y hy => hal y (List.mem_cons_of_mem _ hy))]
    rw [bcell_b8 h0.1 h0.2]; rfl
 have el : (xs.map b8).length = xs.length := by simp
 rw [hcs, e2] at hR
 refine ⟨⟨A, c, xs.map b8⟩, ⟨by rw [h5]; simp [FrD.v], ?_⟩, fun hh => ?_, ?_⟩
 ·
  show Rd W 1 (.slice A (xs.map b8).length c) (xs.map b8).length ((xs.map b8).map bcell)
  rw [el]; exact hR
 ·
  have := (hw hh).1
  simp [reachBytes] at this
  simp; omega
 ·
  have := sum_ge (f := fun _ : Int => 1) (fun _ => Nat.le_refl _) xs
  simp; omega
end Go.Proofs.Ytfbdcllbgfohdaa.Wk
set_option linter.unusedVariables false
set_option linter.unusedSimpArgs false
namespace Go.Proofs.Ytfbdcllbgfohdaa.Wk
open Go Go.RowKit Go.Proofs.Ytfbdcllbgfohdaa.K
theorem opnPartW (W : World) : Opn Try.prog W 49 2 (fun cs (p : PartW) => cs = encW p ∧ Rd W 1 (.slice p.A p.b.length p.c) p.b.length (p.b.map bcell) ∧ In64 p.cart) (fun p => p.b.length ≤ 140737488355328) (fun p => p.b.length + 1) := by
 have hi := Opn.int (P := Try.prog) (W := W) (t := 3) (k := .i64) (by kernel_rfl) (by kernel_rfl)
 have h := Opn.struct (P := Try.prog) (W := W) (t := 49) (sz := 2) (fl := [(3, 0), (34, 1)]) (by kernel_rfl) (by kernel_rfl) (OpnF.cons hi (OpnF.cons (opnBs W) OpnF.nil))
 refine ⟨h.size, fun enc B hB fuel cs d p e => ?_⟩
 obtain ⟨⟨k, b, _⟩, ⟨hl, ⟨h1, w1⟩, ⟨h2, hR⟩, _⟩, hw, hbk⟩ := h.open_ enc B hB fuel cs d p e
 obtain ⟨c0, c1, rfl⟩ : ∃ c0 c1, cs = [c0, c1] := by
  match cs, hl with
  | [c0, c1], _ => exact ⟨c0, c1, rfl⟩
 dsimp only at h1 h2 hw hbk
 simp at h1 h2
 subst h1 h2
 refine ⟨⟨k, b.A, b.c, b.b⟩, ⟨rfl, hR, in64_of w1⟩, fun hh => (hw hh).2.1, ?_⟩
 dsimp only at hbk ⊢
 omega
structure MailW where
 k : Int
 f : Int
 t : Int
 lo : Int
 hi : Int
 A : Option Addr
 c : Nat
 ps : List PartW
def encMW (m : MailW) : List Value := [.int .i64 m.k, .int .i64 m.f, .int .i64 m.t, .int .i64 m.lo, .int .i64 m.hi, .slice m.A m.ps.length m.c]
theorem opnMailW (W : World) : Opn Try.prog W 24 6 (fun cs (m : MailW) => cs = encMW m ∧ Rd W 2 (.slice m.A m.ps.length m.c) m.ps.length (m.ps.flatMap encW) ∧ ∀ p ∈ m.ps, Rd W 1 (.slice p.A p.b.length p.c) p.b.length (p.b.map bcell) ∧ In64 p.cart) (fun _ => True) (fun m => (m.ps.map fun p => p.b.length + 1).sum) := by
 have hi := Opn.int (P := Try.prog) (W := W) (t := 3) (k := .i64) (by kernel_rfl) (by kernel_rfl)
 have hs := Opn.slice (P := Try.prog) (W := W) (t := 22) (by_ := 32) (by kernel_rfl) (by kernel_rfl) (by kernel_rfl) (opnPartW W)
 have h := Opn.struct (P := Try.prog) (W := W) (t := 24) (sz := 6) (fl := [(3, 0), (3, 1), (3, 2), (3, 3), (3, 4), (22, 5)]) (by kernel_rfl) (by kernel_rfl) (OpnF.cons hi (OpnF.cons hi (OpnF.cons hi (OpnF.cons hi (OpnF.cons hi (OpnF.cons hs OpnF.nil))))))
 refine ⟨h.size, fun enc B hB fuel cs d p e => ?_⟩
 obtain ⟨⟨k, f, t, lo, hi, ps, _⟩, ⟨hl, ⟨h0, w0⟩, ⟨h1, w1⟩, ⟨h2, w2⟩, ⟨h3, w3⟩, ⟨h4, w4⟩, ⟨A, c, css, h5, hc, hR, hcl, _, hrel⟩, _⟩, hw, hbk⟩ := h.open_ enc B hB fuel cs d p e
 obtain ⟨c0, c1, c2, c3, c4, c5, rfl⟩ : ∃ c0 c1 c2 c3 c4 c5, cs = [c0, c1, c2, c3, c4, c5] := by
  match cs, hl with
  | [c0, c1, c2, c3, c4, c5], _ => exact ⟨c0, c1, c2, c3, c4, c5, rfl⟩
 dsimp only at h0 h1 h2 h3 h4 h5 hR hcl hrel hw hbk
 simp at h0 h1 h2 h3 h4 h5
 subst h0 h1 h2 h3 h4 h5
 have hcs := flat_of encW hcl fun i x a h1 h2 => (hrel i x a h1 h2).1
 refine ⟨⟨k, f, t, lo, hi, A, c, ps⟩, ⟨rfl, ?_, all_of hcl fun i x a h1 h2 => (hrel i x a h1 h2).2⟩, fun _ => trivial, ?_⟩
 ·
  rw [hcs] at hR
  rwa [List.flatMap_def]
 ·
  show (ps.map fun p => p.b.length + 1).sum ≤ _
  omega
theorem partsZ_bulk : ∀ ps : List PartW, partsZ ps ≤ 20 * (ps.map fun p => p.b.length + 1).sum
 | [] => Nat.zero_le _
 | p :: ps => by have := partsZ_bulk ps; unfold partsZ at *; simp only [List.map_cons, List.sum_cons]; omega
theorem body_bulk {ps : List PartW} {n : Nat} (h : (ps.map fun p => p.b.length + 1).sum ≤ n) : ∀ p ∈ ps, p.b.length ≤ n := fun p hp => by
 have h1 := partsZ_mem hp
 induction ps with
 | nil => cases hp
 | cons q ps ih =>
   simp only [List.map_cons, List.sum_cons] at h
   rcases List.mem_cons.1 hp with rfl | hp
   ·
    omega
   ·
    exact ih (by omega) hp (partsZ_mem hp)
end Go.Proofs.Ytfbdcllbgfohdaa.Wk
