/- Texts of our own that a row leans on, put together. No condition of their own. -/
import Derived.Test.YtkjabaihpkbfhaaGreatMRowSaveFlips3
set_option linter.unusedVariables false
set_option linter.unusedSimpArgs false
set_option maxRecDepth 100000
set_option maxHeartbeats 2000000
namespace Go.Proofs.YtkjabaihpkbfhaaGreat.Wk
open Go Go.RowKit Go.Proofs.YtkjabaihpkbfhaaGreat Go.Proofs.YtkjabaihpkbfhaaGreat.K Go.Proofs.YtkjabaihpkbfhaaGreat.T
theorem jv (W:World)(W0:World)(L:List As)(r:Nat)(A:Option Addr)(c:Nat)(bs:List UInt8)(at_:Int)(live:Bool)(err:Int)(s0:Sat W0 W (gU r A c bs at_ live err::L))(he:err=0):Calls Tryz.prog 149 #[.pointer (some ⟨r,0,none⟩)] W fun e w'=>e=.returned (.bool live)∧Sat W w' []:=by
 refine bP Tryz.func149 [0] ?_;have O:=Sat.start W;intro a I;change Sat W0 W (a6 r (.cells #[.slice A bs.length c,.int .i64 at_,.bool live,.int .i64 err] 269)::L) at s0;subst he;refine rC 9 I ?_;clear I a;refine ng 0 0 (uP rfl rfl D6) ?_ ?_
 ·intro h4;intro a I;contradiction
 ·intro h4;refine uO 2 ?_;refine u1 0 (aZ rfl) ?_;refine u1 0 (aa rfl nf) ?_;refine u1 0 (aj rfl Eh (s0.rk O rfl)) ?_;refine ng 0 0 (aI rfl) ?_ ?_
  ·intro h10;intro a I;simp only[decide_eq_decide,decide_eq_true_eq,decide_eq_false_iff_not,Bool.not_eq_true',Bool.not_eq_false',bne_iff_ne,ne_eq,beq_iff_eq,Bool.not_eq_true,Bool.not_eq_false]at h10;refine rO 11 I ?_;clear I a;refine aS ?_
   first
    | (subst h9;exact⟨rfl,O⟩)
    | (cases live<;>first | exact⟨rfl,O⟩ | simp_all)
  ·intro h10;intro a I;simp only[decide_eq_decide,decide_eq_true_eq,decide_eq_false_iff_not,Bool.not_eq_true',Bool.not_eq_false',bne_iff_ne,ne_eq,beq_iff_eq,Bool.not_eq_true,Bool.not_eq_false]at h10;refine rO 10 I ?_;clear I a;refine u1 0 (aZ rfl) ?_;refine u1 0 (aa rfl fT) ?_;refine u1 0 (aj rfl qe (s0.rk O rfl)) ?_;refine aK 0 0 (aG rfl rfl) ?_ ?_
   ·intro h16;intro a I;contradiction
   ·intro h16;refine uO 11 ?_;refine aS ?_
    first
     | (subst h9;exact⟨rfl,O⟩)
     | (cases live<;>first | exact⟨rfl,O⟩ | simp_all)
theorem jb (W w:World)(L:List As)(r:Nat)(A:Option Addr)(c:Nat)(bs:List UInt8)(at_:Nat)(er:Int)(O:Sat W w (gU r A c bs at_ true 0::L))  : Calls Tryz.prog 151 #[.pointer (some ⟨r,0,none⟩),.int .i64 er] w fun e w'=>xv (.iface 271 (.agg #[.pointer (some ⟨r,0,none⟩)])) e∧Sat W w' (gU r A c bs at_ true er::L):=by
 refine bP Tryz.func151 [0,1] ?_;intro a I;change Sat W w (a6 r (.cells #[.slice A bs.length c,.int .i64 (at_:Int),.bool true,.int .i64 0] 269)::L) at O;refine rC 4 I ?_;clear I a;refine u1 0 (aZ rfl) ?_;refine u1 0 (aa rfl fT) ?_;intro a I;refine mQ I rfl rfl qe rJ rfl O rfl ?_;clear O;intro w O;refine rO 4 I ?_;clear I a;intro a I;refine o1 0 I (aM I rfl Ga) ?_;clear I a;refine u1 0 (yQ rfl vm) ?_;intro a I;refine IJ I rfl ?_;refine db I ?_;exact⟨xv.one _,O⟩
theorem p8 (W w:World)(L:List As)(r:Nat)(A:Option Addr)(c:Nat)(bs:List UInt8)(at_:Nat)(mo:Int)(O:Sat W w (gU r A c bs at_ true 0::L))(hat:at_≤bs.length)(hb:bs.length≤140737488355328)(hR:∀w,Sat W w L→Rd w 1 (.slice A bs.length c) bs.length (bs.map ai)):Calls Tryz.prog 100 #[.pointer (some ⟨r,0,none⟩),.int .i64 mo] w fun e w'=>(((gH bs at_ mo).2.2=0)∧e=.returned (.int .i64 (((gH bs at_ mo).1:Nat):Int))∧Sat W w' (gU r A c bs ((gH bs at_ mo).2.1:Nat) true 0::L))∨(((gH bs at_ mo).2.2≠0)∧xv (.iface 271 (.agg #[.pointer (some ⟨r,0,none⟩)])) e∧∃at',Sat W w' (gU r A c bs at' true ((gH bs at_ mo).2.2:Nat)::L)):=by
 refine bP Tryz.func100 [0,1] ?_;intro a I;change Sat W w (a6 r (.cells #[.slice A bs.length c,.int .i64 (at_:Int),.bool true,.int .i64 0] 269)::L) at O;refine rC 9 I ?_;clear I a;refine uF rfl (jv _ _ _ r A c bs at_ true 0 O rfl) ?_;rintro e w ⟨rfl,hT⟩;replace O:Sat _ _ (_::_):=O.ag hT;clear hT;refine ng 0 0 (aI rfl) ?_ ?_
 ·intro h10;intro a I;simp only[decide_eq_decide,decide_eq_true_eq,decide_eq_false_iff_not,Bool.not_eq_true',Bool.not_eq_false',bne_iff_ne,ne_eq,beq_iff_eq,Bool.not_eq_true,Bool.not_eq_false]at h10;contradiction
 ·intro h10;intro a I;simp only[decide_eq_decide,decide_eq_true_eq,decide_eq_false_iff_not,Bool.not_eq_true',Bool.not_eq_false',bne_iff_ne,ne_eq,beq_iff_eq,Bool.not_eq_true,Bool.not_eq_false]at h10;refine rO 6 I ?_;clear I a;intro a I;refine bj [8] O (by kernel_rfl) ?_;replace O:=O.drew;refine rX [0] I ?_;clear I a;refine bx 1 [] rfl (fun w=>(aZ rfl)) ?_;refine bx 2 [] rfl (fun w=>(aa rfl gC)) ?_;refine cP 3 [4] rfl (by exact⟨[],O⟩) (fun w hT=>have O:=hT.sat;(ld rfl)) ?_;refine bx 5 [] rfl (fun w=>(aZ rfl)) ?_;refine bx 6 [] rfl (fun w=>(aa rfl iS)) ?_;refine cP 7 [] rfl (by exact⟨[],O⟩) (fun w hT=>have O:=hT.sat;(ld rfl)) ?_;intro a I;refine aD 8 (by kernel_rfl) ?_;refine eF I rfl rfl Js rfl (yb _ A c bs at_ (hR _ O.drop) hat hb) ?_;clear I a;rintro e w ⟨rfl,hT⟩;replace O:Sat _ _ (_::_):=O.ag hT;clear hT
  refine⟨_,rfl,?_⟩;intro a I;refine⟨.inl rfl,?_⟩;refine rX [9] I ?_;clear I a;refine bx 10 [] rfl (fun w=>(an rfl rfl)) ?_;refine bx 11 [] rfl (fun w=>(an rfl rfl)) ?_;refine bx 12 [13,14,15] rfl (fun w=>(an rfl rfl)) ?_;intro a I;refine ah (by kernel_rfl) ?_ _;refine rE 5 I ?_;clear I a;refine aK 0 0 (aG rfl rfl) ?_ ?_
  ·intro h25;refine uO 6 ?_;intro a I;refine dX I rfl wI rfl (jb _ _ _ r _ c bs at_ _ O) ?_;rintro e w ⟨⟨older,rfl,ho⟩,O⟩
   ·refine .inr ⟨_,rfl,?_⟩;refine rE 1 I ?_;clear I a;intro a I;refine db I ?_;have hu:=ti (mo:=mo) (show (fm bs at_).2.2≠0 by omega);rw[hu];exact .inr ⟨(by omega:(fm bs at_).2.2≠0),⟨older,rfl,ho⟩,_,O⟩
  ·intro h25;refine uO 5 ?_;intro a I;replace I:=I.kp [0,1,4,5,6] rfl;refine rC 5 I ?_;clear I a;refine aK 0 0 (dx rfl rfl) ?_ ?_
   ·intro h31;refine uO 5 ?_;intro a I;refine dX I rfl wI rfl (jb _ _ _ r _ c bs at_ 51 O) ?_;rintro e w ⟨⟨older,rfl,ho⟩,O⟩
    ·refine .inr ⟨_,rfl,?_⟩;refine rE 1 I ?_;clear I a;intro a I;refine db I ?_;have hu:=uI (mo:=mo) (show (fm bs at_).2.2=0 by omega) (by omega);rw[hu];exact .inr ⟨(by decide:(51:Nat)≠0),⟨older,rfl,ho⟩,_,O⟩
   ·intro h31;refine uO 9 ?_;refine u1 0 (aZ rfl) ?_;refine u1 0 (aa rfl iS) ?_;intro a I;refine mQ I rfl rfl dE fO rfl O rfl ?_;clear O;intro w O;refine rO 9 I ?_;clear I a;refine aS ?_;have hu:=uj (mo:=mo) (show (fm bs at_).2.2=0 by omega) (by omega);rw[hu];exact .inl ⟨rfl,rfl,O⟩
theorem tP (W w:World)(L:List As)(r:Nat)(A:Option Addr)(c:Nat)(bs:List UInt8)(at_:Nat)(mo:Int)(O:Sat W w (gU r A c bs at_ true 0::L))(hat:at_≤bs.length)(hb:bs.length≤140737488355328)(hR:∀w,Sat W w L→Rd w 1 (.slice A bs.length c) bs.length (bs.map ai)):Calls Tryz.prog 152 #[.pointer (some ⟨r,0,none⟩),.int .i64 mo] w fun e w'=>(((nB bs at_ mo).2.2=0)∧e=.returned (.slice (i6 A c 1 (gH bs at_ mo).2.1) (nB bs at_ mo).1.length (c-(gH bs at_ mo).2.1))∧Sat W w' (gU r A c bs ((nB bs at_ mo).2.1:Nat) true 0::L))∨(((nB bs at_ mo).2.2≠0)∧xv (.iface 271 (.agg #[.pointer (some ⟨r,0,none⟩)])) e∧∃at',Sat W w' (gU r A c bs at' true ((nB bs at_ mo).2.2:Nat)::L)):=by
 refine bP Tryz.func152 [0,1] ?_;intro a I;change Sat W w (a6 r (.cells #[.slice A bs.length c,.int .i64 (at_:Int),.bool true,.int .i64 0] 269)::L) at O;refine rC 9 I ?_;clear I a;intro a I;refine dX I rfl gO rfl (p8 _ _ _ r A c bs at_ mo O hat hb hR) ?_;rintro e w (⟨hu0,rfl,O⟩ | ⟨hu0,⟨older,rfl,ho⟩,at',O⟩)
 ·change Sat W w (a6 r (.cells #[.slice A bs.length c,.int .i64 ((gH bs at_ mo).2.1:Nat),.bool true,.int .i64 0] 269)::L) at O;obtain⟨hu1,hu2,hu3⟩:at_<(gH bs at_ mo).2.1∧(gH bs at_ mo).2.1≤bs.length∧(gH bs at_ mo).1≤9223372036854775807:=by rcases Ce (mo:=mo) hat with h | ⟨_,h⟩;exact absurd hu0 h;exact h
  obtain⟨_,c_,hc0,hcc⟩:=(hR _ O.drop).form;have hcc:bs.length≤c:=by injection hc0;omega
  refine .inl ⟨_,rfl,?_⟩;clear I a;refine uO 5 ?_;intro a I;refine cD (fun w'=>Sat _ w' _) (by kernel_rfl) (by kernel_rfl) O.drew ?_;refine rQ 2 I ?_;clear I a;refine bc 0 (fun w O=>(aZ rfl)) ?_;refine bc 0 (fun w O=>(aa rfl gC)) ?_;refine bc 0 (fun w O=>(ld rfl)) ?_;refine bc 1 (fun w O=>(ak rfl aW)) ?_;refine bc 0 (fun w O=>(aZ rfl)) ?_;refine bc 0 (fun w O=>(aa rfl iS)) ?_;refine bc 0 (fun w O=>(ld rfl)) ?_;refine bc 0 (fun w O=>(sb rfl rfl)) ?_;intro a I;refine K.rn I rfl rfl rfl (fun w O=>(dx (I.ev rfl) (I.ev rfl))) ?_ ?_
  ·clear I a;intro h20;intro a I;refine wpQuiet_nil ?_;clear O;intro w O;refine rE 4 I ?_;clear I a;intro a I;refine dX I rfl wI rfl (jb _ _ _ r _ c bs _ 50 O) ?_;rintro e w ⟨⟨older,rfl,ho⟩,O⟩
   ·refine .inr ⟨_,rfl,?_⟩;refine rE 1 I ?_;clear I a;intro a I;refine db I ?_;rw[oE hu0 (by omega)];exact .inr ⟨(by decide:(50:Nat)≠0),⟨older,rfl,ho⟩,_,O⟩
  ·clear I a;intro h20;intro a I;refine wpQuiet_nil ?_;clear O;intro w O;refine rE 7 I ?_;clear I a;refine u1 0 (aZ rfl) ?_;refine u1 0 (aa rfl iS) ?_;refine u1 1 (ld rfl) ?_;refine u1 0 (aH (ad rfl rfl) (show _=Value.int .i64 (((gH bs at_ mo).2.1+(gH bs at_ mo).1:Nat):Int) from by rw[Int.natCast_add])) ?_;refine u1 0 (aZ rfl) ?_;refine u1 0 (aa rfl iS) ?_;intro a I;refine mQ I rfl rfl dE fO rfl O rfl ?_;clear O;intro w O;refine rO 2 I ?_;clear I a;intro a I;replace I:=I.kp [0,4,5] rfl;refine rC 1 I ?_;clear I a;intro a I;refine cD (fun w'=>Sat _ w' _) (by kernel_rfl) (by kernel_rfl) O.drew ?_;refine rQ 1 I ?_;clear I a
   refine bc 0 (fun w O=>(aZ rfl)) ?_;refine bc 0 (fun w O=>(aa rfl gC)) ?_;refine bc 1 (fun w O=>(ld rfl)) ?_;refine bc 0 (fun w O=>(aZ rfl)) ?_;refine bc 0 (fun w O=>(aa rfl iS)) ?_;refine bc 1 (fun w O=>(ld rfl)) ?_;refine bc 1 (fun w O=>(aH (sb rfl rfl) (show _=Value.int .i64 ((gH bs at_ mo).2.1:Int) from by congr 1;omega))) ?_;refine bc 0 (fun w O=>(aZ rfl)) ?_;refine bc 0 (fun w O=>(aa rfl iS)) ?_;refine bc 0 (fun w O=>(ld rfl)) ?_;refine bc 1 (fun w O=>(aH (AZ rfl rfl rfl aW mJ (by omega) (by omega) (by omega)) (Ds (bs:=bs) (n:=(gH bs at_ mo).1) rfl (by omega)))) ?_;intro a I;refine wpQuiet_nil ?_;clear O;intro w O;refine rE 2 I ?_;clear I a;refine aS ?_;rw[tF hu0 (by omega)];exact .inl ⟨rfl,rfl,O⟩
 ·refine .inr ⟨_,rfl,?_⟩;refine rE 1 I ?_;clear I a;intro a I;refine db I ?_;rw[th hu0];exact .inr ⟨hu0,⟨older,rfl,ho⟩,_,O⟩
theorem xn (W w:World)(L:List As)(r:Nat)(A:Option Addr)(c:Nat)(bs:List UInt8)(at_:Nat)(ea:Int)(O:Sat W w (gU r A c bs at_ true 0::L))(hat:at_≤bs.length)(hb:bs.length≤140737488355328)(hR:∀w,Sat W w L→Rd w 1 (.slice A bs.length c) bs.length (bs.map ai))(hea:ea≤9223372036854775807):Calls Tryz.prog 102 #[.pointer (some ⟨r,0,none⟩),.int .i64 ea] w fun e w'=>(((CO bs at_ ea).2.2=0)∧e=.returned (.int .i64 (((CO bs at_ ea).1:Nat):Int))∧Sat W w' (gU r A c bs ((CO bs at_ ea).2.1:Nat) true 0::L))∨(((CO bs at_ ea).2.2≠0)∧xv (.iface 271 (.agg #[.pointer (some ⟨r,0,none⟩)])) e∧∃at',Sat W w' (gU r A c bs at' true ((CO bs at_ ea).2.2:Nat)::L)):=by
 refine bP Tryz.func102 [0,1] ?_;intro a I;change Sat W w (a6 r (.cells #[.slice A bs.length c,.int .i64 (at_:Int),.bool true,.int .i64 0] 269)::L) at O;refine rC 9 I ?_;clear I a;refine uF rfl (jv _ _ _ r A c bs at_ true 0 O rfl) ?_;rintro e w ⟨rfl,hT⟩;replace O:Sat _ _ (_::_):=O.ag hT;clear hT;refine ng 0 0 (aI rfl) ?_ ?_
 ·intro h8;intro a I;simp only[decide_eq_decide,decide_eq_true_eq,decide_eq_false_iff_not,Bool.not_eq_true',Bool.not_eq_false',bne_iff_ne,ne_eq,beq_iff_eq,Bool.not_eq_true,Bool.not_eq_false]at h8;contradiction
 ·intro h8;intro a I;simp only[decide_eq_decide,decide_eq_true_eq,decide_eq_false_iff_not,Bool.not_eq_true',Bool.not_eq_false',bne_iff_ne,ne_eq,beq_iff_eq,Bool.not_eq_true,Bool.not_eq_false]at h8;refine rO 8 I ?_;clear I a;intro a I;refine dX I rfl gO rfl (p8 _ _ _ r A c bs at_ 9223372036854775807 O hat hb hR) ?_;obtain⟨hm1,hm2⟩:=xz (bs:=bs) (i:=at_);rintro e w (⟨hu0,rfl,O⟩ | ⟨hu0,⟨older,rfl,ho⟩,at',O⟩)
  ·rw[hm1]at hu0;rw[(hm2 hu0).2]at O;have hok:=rI hu0;change Sat W w (a6 r (.cells #[.slice A bs.length c,.int .i64 ((fm bs at_).2.1:Nat),.bool true,.int .i64 0] 269)::L) at O;rw[(hm2 hu0).1];refine .inl ⟨_,rfl,?_⟩;clear I a;refine uO 5 ?_;intro a I;refine cD (fun w'=>Sat _ w' _) (by kernel_rfl) (by kernel_rfl) O.drew ?_;refine rQ 2 I ?_;clear I a;refine bc 0 (fun w O=>(aZ rfl)) ?_;refine bc 0 (fun w O=>(aa rfl gC)) ?_;refine bc 0 (fun w O=>(ld rfl)) ?_;refine bc 1 (fun w O=>(ak rfl aW)) ?_;refine bc 0 (fun w O=>(aZ rfl)) ?_;refine bc 0 (fun w O=>(aa rfl iS)) ?_;refine bc 0 (fun w O=>(ld rfl)) ?_;refine bc 1 (fun w O=>(sb rfl rfl)) ?_;refine bc 0 (fun w O=>(ue rfl rfl)) ?_;refine bc 0 (fun w O=>(gw rfl rfl (by omega) (by omega) (by omega))) ?_;intro a I
   refine K.rn I rfl rfl rfl (fun w O=>(dx (I.ev rfl) (I.ev rfl))) ?_ ?_
   ·clear I a;intro h25;intro a I;refine wpQuiet_nil ?_;clear O;intro w O;refine rE 4 I ?_;clear I a;intro a I;refine dX I rfl wI rfl (jb _ _ _ r _ c bs _ 50 O) ?_;rintro e w ⟨⟨older,rfl,ho⟩,O⟩
    ·refine .inr ⟨_,rfl,?_⟩;refine rE 1 I ?_;clear I a;intro a I;refine db I ?_;rw[wK hu0 (by omega)];exact .inr ⟨(by decide:(50:Nat)≠0),⟨older,rfl,ho⟩,_,O⟩
   ·clear I a;intro h25;intro a I;refine wpQuiet_nil ?_;clear O;intro w O;refine rE 4 I ?_;clear I a;intro a I;replace I:=I.kp [4,5] rfl;refine rC 7 I ?_;clear I a;refine aS ?_;rw[Be hu0 (by omega)];exact .inl ⟨rfl,rfl,O⟩
  ·refine .inr ⟨_,rfl,?_⟩;refine rE 1 I ?_;clear I a;intro a I;refine db I ?_;rw[hm1]at hu0 O;rw[Cj hu0];exact .inr ⟨hu0,⟨older,rfl,ho⟩,_,O⟩
theorem yY (W w:World)(L:List As)(r:Nat)(A:Option Addr)(c:Nat)(bs:List UInt8)(at_:Nat)(mo:Int)(O:Sat W w (gU r A c bs at_ true 0::L))(hat:at_≤bs.length)(hb:bs.length≤140737488355328)(hR:∀w,Sat W w L→Rd w 1 (.slice A bs.length c) bs.length (bs.map ai)):Calls Tryz.prog 394 #[.pointer (some ⟨r,0,none⟩),.int .i64 mo] w fun e w'=>(((nB bs at_ mo).2.2=0)∧e=.returned (.string (str (nB bs at_ mo).1))∧Sat W w' (gU r A c bs ((nB bs at_ mo).2.1:Nat) true 0::L))∨(((nB bs at_ mo).2.2≠0)∧xv (.iface 271 (.agg #[.pointer (some ⟨r,0,none⟩)])) e∧∃at',Sat W w' (gU r A c bs at' true ((nB bs at_ mo).2.2:Nat)::L)):=by
 refine bP Tryz.func394 [0,1] ?_;intro a I;change Sat W w (a6 r (.cells #[.slice A bs.length c,.int .i64 (at_:Int),.bool true,.int .i64 0] 269)::L) at O;refine rC 9 I ?_;clear I a;refine uF rfl (jv _ _ _ r A c bs at_ true 0 O rfl) ?_;rintro e w ⟨rfl,hT⟩;replace O:Sat _ _ (_::_):=O.ag hT;clear hT;refine ng 0 0 (aI rfl) ?_ ?_
 ·intro h7;intro a I;simp only[decide_eq_decide,decide_eq_true_eq,decide_eq_false_iff_not,Bool.not_eq_true',Bool.not_eq_false',bne_iff_ne,ne_eq,beq_iff_eq,Bool.not_eq_true,Bool.not_eq_false]at h7;contradiction
 ·intro h7;intro a I;simp only[decide_eq_decide,decide_eq_true_eq,decide_eq_false_iff_not,Bool.not_eq_true',Bool.not_eq_false',bne_iff_ne,ne_eq,beq_iff_eq,Bool.not_eq_true,Bool.not_eq_false]at h7;refine rO 9 I ?_;clear I a;intro a I;refine dX I rfl GW rfl (tP _ _ _ r A c bs at_ mo O hat hb hR) ?_;rintro e w (⟨hu0,rfl,O⟩ | ⟨hu0,⟨older,rfl,ho⟩,at',O⟩)
  ·have hpr:=B3 (mo:=mo) (hR _ O.drop) hat hu0;refine .inl ⟨_,rfl,?_⟩;clear I a;refine u1 4 (Eb rfl aW oZ x7 hpr) ?_;refine aS ?_;exact .inl ⟨hu0,rfl,O⟩
  ·refine .inr ⟨_,rfl,?_⟩;refine rE 1 I ?_;clear I a;intro a I;refine db I ?_;exact .inr ⟨hu0,⟨older,rfl,ho⟩,_,O⟩
theorem w9 (W w:World)(L:List As)(r:Nat)(A:Option Addr)(c:Nat)(bs:List UInt8)(at_:Nat)(mo:Int)(O:Sat W w (gU r A c bs at_ true 0::L))(hat:at_≤bs.length)(hb:bs.length≤140737488355328)(hR:∀w,Sat W w L→Rd w 1 (.slice A bs.length c) bs.length (bs.map ai)):Calls Tryz.prog 103 #[.pointer (some ⟨r,0,none⟩),.int .i64 mo] w fun e w'=>((nB bs at_ mo).2.2=0∧(∃A' c',e=.returned (.slice A' (nB bs at_ mo).1.length c')∧Sat W w' (gU r A c bs ((nB bs at_ mo).2.1:Nat) true 0::row 5 1 (.slice A' ((nB bs at_ mo).1).length c') ((nB bs at_ mo).1).length (((nB bs at_ mo).1).map ai)::L)))∨(((nB bs at_ mo).2.2≠0)∧xv (.iface 271 (.agg #[.pointer (some ⟨r,0,none⟩)])) e∧∃at',Sat W w' (gU r A c bs at' true ((nB bs at_ mo).2.2:Nat)::L)):=by
 refine bP Tryz.func103 [0,1] ?_;intro a I;change Sat W w (a6 r (.cells #[.slice A bs.length c,.int .i64 (at_:Int),.bool true,.int .i64 0] 269)::L) at O;refine rC 9 I ?_;clear I a;refine uF rfl (jv _ _ _ r A c bs at_ true 0 O rfl) ?_;rintro e w ⟨rfl,hT⟩;replace O:Sat _ _ (_::_):=O.ag hT;clear hT;refine ng 0 0 (aI rfl) ?_ ?_
 ·intro h7;intro a I;simp only[decide_eq_decide,decide_eq_true_eq,decide_eq_false_iff_not,Bool.not_eq_true',Bool.not_eq_false',bne_iff_ne,ne_eq,beq_iff_eq,Bool.not_eq_true,Bool.not_eq_false]at h7;contradiction
 ·intro h7;intro a I;simp only[decide_eq_decide,decide_eq_true_eq,decide_eq_false_iff_not,Bool.not_eq_true',Bool.not_eq_false',bne_iff_ne,ne_eq,beq_iff_eq,Bool.not_eq_true,Bool.not_eq_false]at h7;refine rO 9 I ?_;clear I a;intro a I;refine dX I rfl GW rfl (tP _ _ _ r A c bs at_ mo O hat hb hR) ?_;rintro e w (⟨hu0,rfl,O⟩ | ⟨hu0,⟨older,rfl,ho⟩,at',O⟩)
  ·have hpr:=B3 (mo:=mo) (hR _ O.drop) hat hu0;refine .inl ⟨_,rfl,?_⟩;clear I a;refine uF rfl (oo _ _ _ (nB bs at_ mo).1 hpr (by have:=Cf (bs:=bs) (i:=at_) (mo:=mo);omega)) ?_;rintro e w ⟨A1,c1,rfl,hT⟩;replace O:=O.au hT;clear hT;refine uO 4 ?_;refine aS ?_;exact .inl ⟨hu0,_,_,rfl,O.p 1⟩
  ·refine .inr ⟨_,rfl,?_⟩;refine rE 1 I ?_;clear I a;intro a I;refine db I ?_;exact .inr ⟨hu0,⟨older,rfl,ho⟩,_,O⟩
theorem cQ (W w:World)(L:List As)(r:Nat)(A:Option Addr)(c:Nat)(bs:List UInt8)(at_:Nat)(er:Int)(O:Sat W w (gU r A c bs at_ true 0::L))(hat:at_≤bs.length)(hb:bs.length≤140737488355328)(hR:∀w,Sat W w L→Rd w 1 (.slice A bs.length c) bs.length (bs.map ai)):Calls Tryz.prog 101 #[.pointer (some ⟨r,0,none⟩),.int .i64 er] w fun e w'=>xv (.iface 271 (.agg #[.pointer (some ⟨r,0,none⟩)])) e∧∃at',Sat W w' (gU r A c bs at' true (if er=0 then 8 else er)::L):=by
 refine bP Tryz.func101 [0,1] ?_;intro a I;change Sat W w (a6 r (.cells #[.slice A bs.length c,.int .i64 (at_:Int),.bool true,.int .i64 0] 269)::L) at O;refine rC 4 I ?_;clear I a;refine uF rfl (jv _ _ _ r A c bs at_ true 0 O rfl) ?_;rintro e w ⟨rfl,hT⟩;replace O:Sat _ _ (_::_):=O.ag hT;clear hT;refine ng 0 0 (aI rfl) ?_ ?_
 ·intro h6;intro a I;simp only[decide_eq_decide,decide_eq_true_eq,decide_eq_false_iff_not,Bool.not_eq_true',Bool.not_eq_false',bne_iff_ne,ne_eq,beq_iff_eq,Bool.not_eq_true,Bool.not_eq_false]at h6;contradiction
 ·intro h6;intro a I;simp only[decide_eq_decide,decide_eq_true_eq,decide_eq_false_iff_not,Bool.not_eq_true',Bool.not_eq_false',bne_iff_ne,ne_eq,beq_iff_eq,Bool.not_eq_true,Bool.not_eq_false]at h6;refine rO 9 I ?_;clear I a;refine aK 0 0 (aY rfl rfl) ?_ ?_
  ·intro h8;refine uO 10 ?_;intro a I;refine dX I rfl wI rfl (jb _ _ _ r _ c bs _ _ O) ?_;rintro e w ⟨⟨older,rfl,ho⟩,O⟩
   ·refine .inr ⟨_,rfl,?_⟩;refine db I ?_
    (rw[if_pos h8];exact⟨⟨older,rfl,ho⟩,_,O⟩)
  ·intro h8;refine uO 8 ?_;intro a I;refine dX I rfl wI rfl (jb _ _ _ r _ c bs _ _ O) ?_;rintro e w ⟨⟨older,rfl,ho⟩,O⟩
   ·refine .inr ⟨_,rfl,?_⟩;refine db I ?_
    (rw[if_neg h8];exact⟨⟨older,rfl,ho⟩,_,O⟩)
def sm (c:Option Code):Code:=match c with | some (.seq _ b)=>b | _=>.skip
theorem Dj (W w:World)(L:List As)(r q p:Nat)(A:Option Addr)(n c:Nat)(at_ err e0:Int)(live:Bool)  (hn:n≤140737488355328)(a:Act)(I:Ag a 59 [(0,.pointer (some ⟨q,0,none⟩)),(1,.pointer (some ⟨p,0,none⟩)),(2,.nilIface)])(O:Sat W w (a6 r (.cells #[.slice A n c,.int .i64 at_,.bool live,.int .i64 err] 269)::a6 q (.cells #[.pointer (some ⟨r,0,none⟩)] 196)::a6 p (.cells #[.int .i64 e0] 27)::L)):(sm Tryz.f148.body).wp Tryz.prog (bodyPost Tryz.prog Tryz.f148 fun e w'=>e=.returned (.tuple #[])∧Sat W w' (a6 r (.cells #[.slice none 0 0,.int .i64 at_,.bool false,.int .i64 err] 269)::a6 q (.cells #[.pointer (some ⟨r,0,none⟩)] 196)::a6 p (.cells #[.int .i64 (if err≠0 then err else if at_<n then 52 else e0)] 27)::L)) a w:=by
 refine rC 1 I ?_;clear I a;intro a I;refine cD (fun w'=>Sat _ w' _) (by kernel_rfl) (by kernel_rfl) O.drew ?_;refine Q1 0 I (fun w O=>(aj (I.ev rfl) zK (by exact (O.p 1).cell rfl))) ?_;clear I a;refine bc 0 (fun w O=>(aZ rfl)) ?_;refine bc 0 (fun w O=>(aa rfl iS)) ?_;refine bc 0 (fun w O=>(ld rfl)) ?_;refine bc 0 (fun w O=>(ld rfl)) ?_;refine bc 0 (fun w O=>(aZ rfl)) ?_;refine bc 0 (fun w O=>(aa rfl gC)) ?_;refine bc 0 (fun w O=>(ld rfl)) ?_;refine bc 0 (fun w O=>(ak rfl aW)) ?_;intro a I;refine K.rn I rfl rfl rfl (fun w O=>(aq (I.ev rfl) (I.ev rfl))) ?_ ?_
 ·clear I a;intro h16;refine uQ 1 ?_;intro a I;refine wpQuiet_nil ?_;clear O;intro w O;refine rE 3 I ?_;clear I a;refine u1 0 (ld rfl) ?_;refine u1 0 (ld rfl) ?_;refine u1 0 (aZ rfl) ?_;refine u1 0 (aa rfl nf) ?_;intro a I;refine mQ I rfl rfl Eh Gu rfl O rfl ?_;clear O;intro w O;refine o1 0 I (aZ (I.ev rfl)) ?_;clear I a;refine u1 0 (aa rfl gC) ?_;intro a I;refine mQ I rfl rfl nH jC rfl O rfl ?_;clear O;intro w O;refine rO 6 I ?_;clear I a;refine u1 1 (Ca rfl vm (qP pz)) ?_;refine u1 0 (an rfl rfl) ?_;refine u1 0 (an rfl rfl) ?_;refine uN pz O ?_;clear O;intro b4 w O;refine uW (vs:=[_]) (cs':=[_]) rfl rfl wZ O ?_;clear O;intro w O;refine uO 21 ?_;intro a I;replace I:=I.kp [0,1,2,3,4,41] rfl;refine rC 6 I ?_;clear I a
  refine u1 0 (ld rfl) ?_;refine u1 0 (aZ rfl) ?_;refine u1 0 (aa rfl fT) ?_;refine u1 0 (ld rfl) ?_;refine aK 0 0 (aG rfl rfl) ?_ ?_
  ·intro h49;refine uO 5 ?_;refine u1 0 (ld rfl) ?_;refine u1 0 (aZ rfl) ?_;refine u1 0 (aa rfl fT) ?_;refine u1 0 (ld rfl) ?_;intro a I;refine mQ I rfl rfl qe rJ rfl (O.p 3) rfl ?_;clear O;intro w O;refine rO 2 I ?_;clear I a;intro a I;refine fL (e:=.ret) ?_;refine ji I rfl  ?_
   first
    | (rw[if_pos h49];exact⟨rfl,(((O.p 3).p 3).p 3).drop⟩)
    | (rw[if_neg h49,if_pos h16];exact⟨rfl,(((O.p 3).p 3).p 3).drop⟩)
    | (rw[if_neg h49,if_neg h16];exact⟨rfl,O.drop⟩)
    | (rw[if_neg h49];exact⟨rfl,(((O.p 3).p 3).p 3).drop⟩)
  ·intro h49;refine uO 7 ?_;refine u1 12 (Bz rfl rfl (show isIface Tryz.prog 20=true by kernel_rfl)) ?_;intro a I;refine mQ I rfl rfl qe rJ rfl (O.p 3) rfl ?_;clear O;intro w O;refine rO 2 I ?_;clear I a;intro a I;refine fL (e:=.ret) ?_;refine ji I rfl  ?_
   first
    | (rw[if_pos h49];exact⟨rfl,(((O.p 3).p 3).p 3).drop⟩)
    | (rw[if_neg h49,if_pos h16];exact⟨rfl,(((O.p 3).p 3).p 3).drop⟩)
    | (rw[if_neg h49,if_neg h16];exact⟨rfl,O.drop⟩)
    | (rw[if_neg h49];exact⟨rfl,(((O.p 3).p 3).p 3).drop⟩)
 ·clear I a;intro h16;refine uQ 1 ?_;intro a I;refine wpQuiet_nil ?_;clear O;intro w O;refine rE 3 I ?_;clear I a;refine u1 0 (ld rfl) ?_;refine u1 0 (ld rfl) ?_;refine u1 0 (aZ rfl) ?_;refine u1 0 (aa rfl nf) ?_;intro a I;refine mQ I rfl rfl Eh Gu rfl O rfl ?_;clear O;intro w O;refine o1 0 I (aZ (I.ev rfl)) ?_;clear I a;refine u1 0 (aa rfl gC) ?_;intro a I;refine mQ I rfl rfl nH jC rfl O rfl ?_;clear O;intro w O;refine rO 6 I ?_;clear I a;refine u1 1 (Ca rfl vm (qP pz)) ?_;refine u1 0 (an rfl rfl) ?_;refine u1 0 (an rfl rfl) ?_;refine uN pz O ?_;clear O;intro b4 w O;refine uW (vs:=[_]) (cs':=[_]) rfl rfl wZ O ?_;clear O;intro w O;refine uO 21 ?_;intro a I;replace I:=I.kp [0,1,2,3,4,41] rfl;refine rC 6 I ?_;clear I a
  refine u1 0 (ld rfl) ?_;refine u1 0 (aZ rfl) ?_;refine u1 0 (aa rfl fT) ?_;refine u1 0 (ld rfl) ?_;refine aK 0 0 (aG rfl rfl) ?_ ?_
  ·intro h49;refine uO 5 ?_;refine u1 0 (ld rfl) ?_;refine u1 0 (aZ rfl) ?_;refine u1 0 (aa rfl fT) ?_;refine u1 0 (ld rfl) ?_;intro a I;refine mQ I rfl rfl qe rJ rfl (O.p 3) rfl ?_;clear O;intro w O;refine rO 2 I ?_;clear I a;intro a I;refine fL (e:=.ret) ?_;refine ji I rfl  ?_
   first
    | (rw[if_pos h49];exact⟨rfl,(((O.p 3).p 3).p 3).drop⟩)
    | (rw[if_neg h49,if_pos h16];exact⟨rfl,(((O.p 3).p 3).p 3).drop⟩)
    | (rw[if_neg h49,if_neg h16];exact⟨rfl,O.drop⟩)
    | (rw[if_neg h49];exact⟨rfl,(((O.p 3).p 3).p 3).drop⟩)
  ·intro h49;refine uO 7 ?_;refine u1 13 (Bz rfl rfl (show isIface Tryz.prog 20=true by kernel_rfl)) ?_;intro a I;refine fL (e:=.ret) ?_;refine ji I rfl  ?_
   first
    | (rw[if_pos h49];exact⟨rfl,(((O.p 3).p 3).p 3).drop⟩)
    | (rw[if_neg h49,if_pos h16];exact⟨rfl,(((O.p 3).p 3).p 3).drop⟩)
    | (rw[if_neg h49,if_neg h16];exact⟨rfl,O.drop⟩)
    | (rw[if_neg h49];exact⟨rfl,(((O.p 3).p 3).p 3).drop⟩)
theorem Co (W w:World)(L:List As)(r q p:Nat)(A:Option Addr)(n c:Nat)(at_ err e0:Int)(live:Bool)  (hn:n≤140737488355328)(a:Act)(I:Ag a 59 [(0,.pointer (some ⟨q,0,none⟩)),(1,.pointer (some ⟨p,0,none⟩)),(2,.iface 271 (.agg #[.pointer (some ⟨r,0,none⟩)]))])(O:Sat W w (a6 r (.cells #[.slice A n c,.int .i64 at_,.bool live,.int .i64 err] 269)::a6 q (.cells #[.pointer (some ⟨r,0,none⟩)] 196)::a6 p (.cells #[.int .i64 e0] 27)::L)):(sm Tryz.f148.body).wp Tryz.prog (bodyPost Tryz.prog Tryz.f148 fun e w'=>e=.returned (.tuple #[])∧Sat W w' (a6 r (.cells #[.slice none 0 0,.int .i64 at_,.bool false,.int .i64 err] 269)::a6 q (.cells #[.pointer (some ⟨r,0,none⟩)] 196)::a6 p (.cells #[.int .i64 (if err≠0 then err else 8)] 27)::L)) a w:=by
 refine rC 1 I ?_;clear I a;intro a I;refine cD (fun w'=>Sat _ w' _) (by kernel_rfl) (by kernel_rfl) O.drew ?_;refine Q1 0 I (fun w O=>(aj (I.ev rfl) zK (by exact (O.p 1).cell rfl))) ?_;clear I a;refine bc 0 (fun w O=>(aZ rfl)) ?_;refine bc 0 (fun w O=>(aa rfl iS)) ?_;refine bc 0 (fun w O=>(ld rfl)) ?_;refine bc 0 (fun w O=>(ld rfl)) ?_;refine bc 0 (fun w O=>(aZ rfl)) ?_;refine bc 0 (fun w O=>(aa rfl gC)) ?_;refine bc 0 (fun w O=>(ld rfl)) ?_;refine bc 0 (fun w O=>(ak rfl aW)) ?_;intro a I;refine K.rn I rfl rfl rfl (fun w O=>(aq (I.ev rfl) (I.ev rfl))) ?_ ?_
 ·clear I a;intro h16;refine uQ 1 ?_;intro a I;refine wpQuiet_nil ?_;clear O;intro w O;refine rE 3 I ?_;clear I a;refine u1 0 (ld rfl) ?_;refine u1 0 (ld rfl) ?_;refine u1 0 (aZ rfl) ?_;refine u1 0 (aa rfl nf) ?_;intro a I;refine mQ I rfl rfl Eh Gu rfl O rfl ?_;clear O;intro w O;refine o1 0 I (aZ (I.ev rfl)) ?_;clear I a;refine u1 0 (aa rfl gC) ?_;intro a I;refine mQ I rfl rfl nH jC rfl O rfl ?_;clear O;intro w O;refine rO 6 I ?_;clear I a;refine u1 1 (Bv rfl vm) ?_;refine u1 0 (an rfl rfl) ?_;refine u1 0 (an rfl rfl) ?_;refine uN pz O ?_;clear O;intro b4 w O;refine uW (vs:=[_]) (cs':=[_]) rfl rfl wZ O ?_;clear O;intro w O
  refine uO 7 ?_;refine u1 0 (aa rfl BZ) ?_;refine u1 0 (ld rfl) ?_;refine u1 0 (ld rfl) ?_;refine u1 10 (Ed rfl rfl D6 (k:=3) (show (Tryz.prog.info? 269).map (·.size)=some 4 by kernel_rfl)) ?_;intro a I;replace I:=I.kp [0,1,2,3,4,41] rfl;refine rC 6 I ?_;clear I a;refine u1 0 (ld rfl) ?_;refine u1 0 (aZ rfl) ?_;refine u1 0 (aa rfl fT) ?_;refine u1 0 (ld rfl) ?_;refine aK 0 0 (aG rfl rfl) ?_ ?_
  ·intro h49;refine uO 5 ?_;refine u1 0 (ld rfl) ?_;refine u1 0 (aZ rfl) ?_;refine u1 0 (aa rfl fT) ?_;refine u1 0 (ld rfl) ?_;intro a I;refine mQ I rfl rfl qe rJ rfl (O.p 3) rfl ?_;clear O;intro w O;refine rO 2 I ?_;clear I a;intro a I;refine fL (e:=.ret) ?_;refine ji I rfl  ?_
   first
    | (rw[if_pos h49];exact⟨rfl,(((O.p 3).p 3).p 3).drop⟩)
    | (rw[if_neg h49,if_pos h16];exact⟨rfl,(((O.p 3).p 3).p 3).drop⟩)
    | (rw[if_neg h49,if_neg h16];exact⟨rfl,O.drop⟩)
    | (rw[if_neg h49];exact⟨rfl,(((O.p 3).p 3).p 3).drop⟩)
  ·intro h49;refine uO 7 ?_;refine u1 5 (xH rfl rfl (show isIface Tryz.prog 20=true by kernel_rfl)) ?_;intro a I;refine mQ I rfl rfl qe rJ rfl (O.p 3) rfl ?_;clear O;intro w O;refine rO 2 I ?_;clear I a;intro a I;refine fL (e:=.ret) ?_;refine ji I rfl  ?_
   first
    | (rw[if_pos h49];exact⟨rfl,(((O.p 3).p 3).p 3).drop⟩)
    | (rw[if_neg h49,if_pos h16];exact⟨rfl,(((O.p 3).p 3).p 3).drop⟩)
    | (rw[if_neg h49,if_neg h16];exact⟨rfl,O.drop⟩)
    | (rw[if_neg h49];exact⟨rfl,(((O.p 3).p 3).p 3).drop⟩)
 ·clear I a;intro h16;refine uQ 1 ?_;intro a I;refine wpQuiet_nil ?_;clear O;intro w O;refine rE 3 I ?_;clear I a;refine u1 0 (ld rfl) ?_;refine u1 0 (ld rfl) ?_;refine u1 0 (aZ rfl) ?_;refine u1 0 (aa rfl nf) ?_;intro a I;refine mQ I rfl rfl Eh Gu rfl O rfl ?_;clear O;intro w O;refine o1 0 I (aZ (I.ev rfl)) ?_;clear I a;refine u1 0 (aa rfl gC) ?_;intro a I;refine mQ I rfl rfl nH jC rfl O rfl ?_;clear O;intro w O;refine rO 6 I ?_;clear I a;refine u1 1 (Bv rfl vm) ?_;refine u1 0 (an rfl rfl) ?_;refine u1 0 (an rfl rfl) ?_;refine uN pz O ?_;clear O;intro b4 w O;refine uW (vs:=[_]) (cs':=[_]) rfl rfl wZ O ?_;clear O;intro w O
  refine uO 7 ?_;refine u1 0 (aa rfl BZ) ?_;refine u1 0 (ld rfl) ?_;refine u1 0 (ld rfl) ?_;refine u1 10 (Ed rfl rfl D6 (k:=3) (show (Tryz.prog.info? 269).map (·.size)=some 4 by kernel_rfl)) ?_;intro a I;replace I:=I.kp [0,1,2,3,4,41] rfl;refine rC 6 I ?_;clear I a;refine u1 0 (ld rfl) ?_;refine u1 0 (aZ rfl) ?_;refine u1 0 (aa rfl fT) ?_;refine u1 0 (ld rfl) ?_;refine aK 0 0 (aG rfl rfl) ?_ ?_
  ·intro h49;refine uO 5 ?_;refine u1 0 (ld rfl) ?_;refine u1 0 (aZ rfl) ?_;refine u1 0 (aa rfl fT) ?_;refine u1 0 (ld rfl) ?_;intro a I;refine mQ I rfl rfl qe rJ rfl (O.p 3) rfl ?_;clear O;intro w O;refine rO 2 I ?_;clear I a;intro a I;refine fL (e:=.ret) ?_;refine ji I rfl  ?_
   first
    | (rw[if_pos h49];exact⟨rfl,(((O.p 3).p 3).p 3).drop⟩)
    | (rw[if_neg h49,if_pos h16];exact⟨rfl,(((O.p 3).p 3).p 3).drop⟩)
    | (rw[if_neg h49,if_neg h16];exact⟨rfl,O.drop⟩)
    | (rw[if_neg h49];exact⟨rfl,(((O.p 3).p 3).p 3).drop⟩)
  ·intro h49;refine uO 7 ?_;refine u1 5 (xH rfl rfl (show isIface Tryz.prog 20=true by kernel_rfl)) ?_;intro a I;refine mQ I rfl rfl qe rJ rfl (O.p 3) rfl ?_;clear O;intro w O;refine rO 2 I ?_;clear I a;intro a I;refine fL (e:=.ret) ?_;refine ji I rfl  ?_
   first
    | (rw[if_pos h49];exact⟨rfl,(((O.p 3).p 3).p 3).drop⟩)
    | (rw[if_neg h49,if_pos h16];exact⟨rfl,(((O.p 3).p 3).p 3).drop⟩)
    | (rw[if_neg h49,if_neg h16];exact⟨rfl,O.drop⟩)
    | (rw[if_neg h49];exact⟨rfl,(((O.p 3).p 3).p 3).drop⟩)
theorem yr (W w:World)(L:List As)(r q p:Nat)(A:Option Addr)(n c:Nat)(at_ err e0:Int)(live:Bool)(tx:TypeId)(vx:Value)(hne:tx≠271)(hn:n≤140737488355328)(a:Act)(I:Ag a 59 [(0,.pointer (some ⟨q,0,none⟩)),(1,.pointer (some ⟨p,0,none⟩)),(2,.iface tx vx)])(O:Sat W w (a6 r (.cells #[.slice A n c,.int .i64 at_,.bool live,.int .i64 err] 269)::a6 q (.cells #[.pointer (some ⟨r,0,none⟩)] 196)::a6 p (.cells #[.int .i64 e0] 27)::L)):(sm Tryz.f148.body).wp Tryz.prog (bodyPost Tryz.prog Tryz.f148 fun e w'=>e=.returned (.tuple #[])∧Sat W w' (a6 r (.cells #[.slice none 0 0,.int .i64 at_,.bool false,.int .i64 err] 269)::a6 q (.cells #[.pointer (some ⟨r,0,none⟩)] 196)::a6 p (.cells #[.int .i64 (if err≠0 then err else 8)] 27)::L)) a w:=by
 refine rC 1 I ?_;clear I a;intro a I;refine cD (fun w'=>Sat _ w' _) (by kernel_rfl) (by kernel_rfl) O.drew ?_;refine Q1 0 I (fun w O=>(aj (I.ev rfl) zK (by exact (O.p 1).cell rfl))) ?_;clear I a;refine bc 0 (fun w O=>(aZ rfl)) ?_;refine bc 0 (fun w O=>(aa rfl iS)) ?_;refine bc 0 (fun w O=>(ld rfl)) ?_;refine bc 0 (fun w O=>(ld rfl)) ?_;refine bc 0 (fun w O=>(aZ rfl)) ?_;refine bc 0 (fun w O=>(aa rfl gC)) ?_;refine bc 0 (fun w O=>(ld rfl)) ?_;refine bc 0 (fun w O=>(ak rfl aW)) ?_;intro a I;refine K.rn I rfl rfl rfl (fun w O=>(aq (I.ev rfl) (I.ev rfl))) ?_ ?_
 ·clear I a;intro h16;refine uQ 1 ?_;intro a I;refine wpQuiet_nil ?_;clear O;intro w O;refine rE 3 I ?_;clear I a;refine u1 0 (ld rfl) ?_;refine u1 0 (ld rfl) ?_;refine u1 0 (aZ rfl) ?_;refine u1 0 (aa rfl nf) ?_;intro a I;refine mQ I rfl rfl Eh Gu rfl O rfl ?_;clear O;intro w O;refine o1 0 I (aZ (I.ev rfl)) ?_;clear I a;refine u1 0 (aa rfl gC) ?_;intro a I;refine mQ I rfl rfl nH jC rfl O rfl ?_;clear O;intro w O;refine rO 6 I ?_;clear I a;refine u1 1 (zI rfl hne vm (qP pz)) ?_;refine u1 0 (an rfl rfl) ?_;refine u1 0 (an rfl rfl) ?_;refine uN pz O ?_;clear O;intro b4 w O;refine uW (vs:=[_]) (cs':=[_]) rfl rfl wZ O ?_;clear O;intro w O;refine uO 21 ?_;intro a I;replace I:=I.kp [0,1,2,3,4,41] rfl;refine rC 6 I ?_;clear I a
  refine u1 0 (ld rfl) ?_;refine u1 0 (aZ rfl) ?_;refine u1 0 (aa rfl fT) ?_;refine u1 0 (ld rfl) ?_;refine aK 0 0 (aG rfl rfl) ?_ ?_
  ·intro h49;refine uO 5 ?_;refine u1 0 (ld rfl) ?_;refine u1 0 (aZ rfl) ?_;refine u1 0 (aa rfl fT) ?_;refine u1 0 (ld rfl) ?_;intro a I;refine mQ I rfl rfl qe rJ rfl (O.p 3) rfl ?_;clear O;intro w O;refine rO 2 I ?_;clear I a;intro a I;refine fL (e:=.ret) ?_;refine ji I rfl  ?_
   first
    | (rw[if_pos h49];exact⟨rfl,(((O.p 3).p 3).p 3).drop⟩)
    | (rw[if_neg h49,if_pos h16];exact⟨rfl,(((O.p 3).p 3).p 3).drop⟩)
    | (rw[if_neg h49,if_neg h16];exact⟨rfl,O.drop⟩)
    | (rw[if_neg h49];exact⟨rfl,(((O.p 3).p 3).p 3).drop⟩)
  ·intro h49;refine uO 7 ?_;refine u1 5 (xH rfl rfl (show isIface Tryz.prog 20=true by kernel_rfl)) ?_;intro a I;refine mQ I rfl rfl qe rJ rfl (O.p 3) rfl ?_;clear O;intro w O;refine rO 2 I ?_;clear I a;intro a I;refine fL (e:=.ret) ?_;refine ji I rfl  ?_
   first
    | (rw[if_pos h49];exact⟨rfl,(((O.p 3).p 3).p 3).drop⟩)
    | (rw[if_neg h49,if_pos h16];exact⟨rfl,(((O.p 3).p 3).p 3).drop⟩)
    | (rw[if_neg h49,if_neg h16];exact⟨rfl,O.drop⟩)
    | (rw[if_neg h49];exact⟨rfl,(((O.p 3).p 3).p 3).drop⟩)
 ·clear I a;intro h16;refine uQ 1 ?_;intro a I;refine wpQuiet_nil ?_;clear O;intro w O;refine rE 3 I ?_;clear I a;refine u1 0 (ld rfl) ?_;refine u1 0 (ld rfl) ?_;refine u1 0 (aZ rfl) ?_;refine u1 0 (aa rfl nf) ?_;intro a I;refine mQ I rfl rfl Eh Gu rfl O rfl ?_;clear O;intro w O;refine o1 0 I (aZ (I.ev rfl)) ?_;clear I a;refine u1 0 (aa rfl gC) ?_;intro a I;refine mQ I rfl rfl nH jC rfl O rfl ?_;clear O;intro w O;refine rO 6 I ?_;clear I a;refine u1 1 (zI rfl hne vm (qP pz)) ?_;refine u1 0 (an rfl rfl) ?_;refine u1 0 (an rfl rfl) ?_;refine uN pz O ?_;clear O;intro b4 w O;refine uW (vs:=[_]) (cs':=[_]) rfl rfl wZ O ?_;clear O;intro w O;refine uO 21 ?_;intro a I;replace I:=I.kp [0,1,2,3,4,41] rfl;refine rC 6 I ?_;clear I a
  refine u1 0 (ld rfl) ?_;refine u1 0 (aZ rfl) ?_;refine u1 0 (aa rfl fT) ?_;refine u1 0 (ld rfl) ?_;refine aK 0 0 (aG rfl rfl) ?_ ?_
  ·intro h49;refine uO 5 ?_;refine u1 0 (ld rfl) ?_;refine u1 0 (aZ rfl) ?_;refine u1 0 (aa rfl fT) ?_;refine u1 0 (ld rfl) ?_;intro a I;refine mQ I rfl rfl qe rJ rfl (O.p 3) rfl ?_;clear O;intro w O;refine rO 2 I ?_;clear I a;intro a I;refine fL (e:=.ret) ?_;refine ji I rfl  ?_
   first
    | (rw[if_pos h49];exact⟨rfl,(((O.p 3).p 3).p 3).drop⟩)
    | (rw[if_neg h49,if_pos h16];exact⟨rfl,(((O.p 3).p 3).p 3).drop⟩)
    | (rw[if_neg h49,if_neg h16];exact⟨rfl,O.drop⟩)
    | (rw[if_neg h49];exact⟨rfl,(((O.p 3).p 3).p 3).drop⟩)
  ·intro h49;refine uO 7 ?_;refine u1 5 (xH rfl rfl (show isIface Tryz.prog 20=true by kernel_rfl)) ?_;intro a I;refine mQ I rfl rfl qe rJ rfl (O.p 3) rfl ?_;clear O;intro w O;refine rO 2 I ?_;clear I a;intro a I;refine fL (e:=.ret) ?_;refine ji I rfl  ?_
   first
    | (rw[if_pos h49];exact⟨rfl,(((O.p 3).p 3).p 3).drop⟩)
    | (rw[if_neg h49,if_pos h16];exact⟨rfl,(((O.p 3).p 3).p 3).drop⟩)
    | (rw[if_neg h49,if_neg h16];exact⟨rfl,O.drop⟩)
    | (rw[if_neg h49];exact⟨rfl,(((O.p 3).p 3).p 3).drop⟩)
section
variable {P:Program} {Q:Exit→Act→List Frame→World→Prop} {a:Act} {cs cs':List Frame} {w w':World} {ops:Array Oper} {i:Nat} {rest:List Nat} {o:Oper} {v:Value}
theorem CP (ho:ops[i]?=some o)(hg:o.guard=none)(hr:(execOp a.eval o).run P w=.ok .recover w')(hc:recoverD cs=some (v,cs'))(k:wpOpsS P ops Q rest (a.put o.dst v) cs' w'):wpOpsS P ops Q (i::rest) a cs w:=by
 rw[wpOpsS];simp only[ho,Region.wanted,hg,if_true,hr,hc];exact k
theorem Dg (ho:ops[i]?=some o)(hg:o.guard=none)(hr:(execOp a.eval o).run P w=.ok .recover w')(hc:recoverD cs=none)(k:wpOpsS P ops Q rest (a.put o.dst .nilIface) cs w'):wpOpsS P ops Q (i::rest) a cs w:=by
 rw[wpOpsS];simp only[ho,Region.wanted,hg,if_true,hr,hc];exact k
theorem Ir (ho:ops[i]?=some o)(hg:o.guard=none)(hr:(execOp a.eval o).run P w=.ok (.value v) w')(k:wpOpsS P ops Q rest (a.put o.dst v) cs w'):wpOpsS P ops Q (i::rest) a cs w:=by
 rw[wpOpsS];simp only[ho,Region.wanted,hg,if_true,hr,Oper.upon];exact k
end
theorem yT {R:Ending→World→Prop}(x:Value)(u u':FrameMode)(w:World)(q p:Nat)
 (hx:∀(c₀:Frame) (cs:List Frame),c₀.mode=u→recoverD (c₀::cs)=some (x,{ c₀ with mode:=u' }::cs)∨(recoverD (c₀::cs)=none∧x=.nilIface∧u'=u))
 (h:∀a,Ag a 59 [(0,.pointer (some ⟨q,0,none⟩)),(1,.pointer (some ⟨p,0,none⟩)),(2,x)]→(sm Tryz.f148.body).wp Tryz.prog (bodyPost Tryz.prog Tryz.f148 R) a w) :
 CallsD Tryz.prog 148 #[.pointer (some ⟨q,0,none⟩),.pointer (some ⟨p,0,none⟩)] u w fun e v w'=>v=u'∧R e w':=by
 refine callsD_of_wpS Tryz.func148 rfl fun c₀ cs hc=>wpS_seq (wpS_region ?_)
 have hA0:Ag { tmps:=#[.pointer (some ⟨q,0,none⟩),.pointer (some ⟨p,0,none⟩)]++Array.replicate (Tryz.f148.ntmps-2) undef,defers:=[] } 59 [(0,.pointer (some ⟨q,0,none⟩)),(1,.pointer (some ⟨p,0,none⟩))]:=
  Ag.enter _ 59 (by simp) (by intro z hz;simp at hz;rcases hz with rfl | rfl<;>rfl)
 show wpOpsS Tryz.prog _ _ [0,1] _ _ _
 have key:∀a' cs',Ag a' 59 [(0,.pointer (some ⟨q,0,none⟩)),(1,.pointer (some ⟨p,0,none⟩)),(2,x)]→cs'={ c₀ with mode:=u' }::cs→
  (sm Tryz.f148.body).wpS Tryz.prog (bodyPostS Tryz.prog Tryz.f148 c₀ cs (fun e v w'=>v=u'∧R e w')) a' cs' w:=fun a' cs' I hcs=>
  wpS_of_wp (wp_mono (h a' I) fun e a2 w2 hq=>by
   cases e with
   | normal=>obtain⟨h1,v,h2,h3⟩:=hq;exact⟨h1,u',hcs,v,h2,rfl,h3⟩
   | ret=>obtain⟨h1,v,h2,h3⟩:=hq;exact⟨h1,u',hcs,v,h2,rfl,h3⟩
   | panic ch=>exact⟨hq.1,u',hcs,rfl,hq.2⟩
   | outgrown=>exact⟨u',rfl,hq⟩
   | exit i=>exact hq
   | goto l=>exact hq)
 rcases hx c₀ cs hc with h1 | ⟨h1,rfl,rfl⟩
 ·
  refine CP rfl rfl rfl h1 ?_;have hA1:=hA0.put (d:=6) (by rfl) x;refine Ir rfl rfl (qt (hA1.ev rfl)) ?_;have hA2:=hA1.put (d:=2) (by rfl) x;exact key _ _ (hA2.yi (.cons (i:=0) rfl (.cons (i:=1) rfl (.cons (i:=2) rfl .nil)))) rfl
 ·
  refine Dg rfl rfl rfl h1 ?_;have hA1:=hA0.put (d:=6) (by rfl) .nilIface;refine Ir rfl rfl (qt (hA1.ev rfl)) ?_;have hA2:=hA1.put (d:=2) (by rfl) .nilIface;exact key _ _ (hA2.yi (.cons (i:=0) rfl (.cons (i:=1) rfl (.cons (i:=2) rfl .nil)))) (by subst hc;rfl)
def dead (r:Nat)(at_ err:Int):As:=a6 r (.cells #[.slice none 0 0,.int .i64 at_,.bool false,.int .i64 err] 269)
def iq (q r:Nat):As:=a6 q (.cells #[.pointer (some ⟨r,0,none⟩)] 196)
def gV (p:Nat)(x:Int):As:=a6 p (.cells #[.int .i64 x] 27)
theorem og {R:Ending→World→Prop}{a:Act}{E:Env}(W w:World)(L:List As)(r q p:Nat)(at_ err:Int)(x:Value)(u u':FrameMode)(hu:u≠.run)
 (hx:∀(c₀:Frame) (cs:List Frame),c₀.mode=u→recoverD (c₀::cs)=some (x,{ c₀ with mode:=u' }::cs)∨(recoverD (c₀::cs)=none∧x=.nilIface∧u'=u)) (hset:settle u'=.returning) (fin:Int)
 (htail:∀a,Ag a 59 [(0,.pointer (some ⟨q,0,none⟩)),(1,.pointer (some ⟨p,0,none⟩)),(2,x)]→(sm Tryz.f148.body).wp Tryz.prog (bodyPost Tryz.prog Tryz.f148 fun e w'=>e=.returned (.tuple #[])∧Sat W w' (dead r at_ err::iq q r::gV p fin::L)) a w)
 (I:zX [{ target:=.fn (.func 148) #[.pointer (some ⟨q,0,none⟩),.pointer (some ⟨p,0,none⟩)],args:=#[] }] a 15 E) (h4:find 4 E=some (.pointer (some ⟨p,0,none⟩)))
 (hR:∀w',Sat W w' (dead r at_ err::iq q r::gV p fin::L)→R (.returned (.int .i64 fin)) w'):Leaves Tryz.prog Tryz.f98 a.tmps R a.defers u w:=by
 rw[I.defers]
 have hinv:(invoke (.fn (.func 148) #[.pointer (some ⟨q,0,none⟩),.pointer (some ⟨p,0,none⟩)]) #[]).run Tryz.prog w=.ok (.enter 148 #[.pointer (some ⟨q,0,none⟩),.pointer (some ⟨p,0,none⟩)]) w:=by
  have h:=kv (w:=w) (args:=#[.pointer (some ⟨q,0,none⟩),.pointer (some ⟨p,0,none⟩)]) IX;have e:(#[]:Array Value)++#[.pointer (some ⟨q,0,none⟩),.pointer (some ⟨p,0,none⟩)]=#[.pointer (some ⟨q,0,none⟩),.pointer (some ⟨p,0,none⟩)]:=by simp
  show (callFunc 148 ((#[]:Array Value)++#[.pointer (some ⟨q,0,none⟩),.pointer (some ⟨p,0,none⟩)])).run Tryz.prog w=_;rw[e,h]
 refine leaves_cons hu hinv (CallsD.mono (yT x u u' w q p hx htail) fun e v w' hh=>?_);obtain⟨rfl,rfl,O⟩:=hh;show Leaves Tryz.prog Tryz.f98 a.tmps R [] (settle v) w';rw[hset]
 have hc:w'.cell? ⟨p,0,none⟩=some (.int .i64 fin):=by
  have h2:=O.p 2;unfold gV at h2;exact h2.cell rfl
 have hres:=JR (P:=Tryz.prog) (w:=w') (s:=4) (t:=27) I.base h4 qe hc;refine⟨.int .i64 fin,?_,hR w' O⟩;rw[np];show (((#[ResultVar.cell 4 27]:Array ResultVar).mapM (so a.tmps)).bind _).run Tryz.prog w'=_;rw[Sem.run_bind',GN hres]
 rfl
end Go.Proofs.YtkjabaihpkbfhaaGreat.Wk
namespace Go.Proofs.YtkjabaihpkbfhaaGreat.Wk
open Go Go.RowKit Go.Proofs.YtkjabaihpkbfhaaGreat Go.Proofs.YtkjabaihpkbfhaaGreat.K Go.Proofs.YtkjabaihpkbfhaaGreat.T
open K.D Go.Proofs.YtkjabaihpkbfhaaGreat.T
def p5 (ok:Bool)(err at_:Int)(n:Nat):Int:=if err≠0 then err else if ok=false then 8 else if at_<n then 52 else 0
theorem lU {ok:Bool}{err at_:Int}{n:Nat}(h:ok=true):p5 ok err at_ n=if err≠0 then err else if at_<n then 52 else 0:=by subst h;simp[p5]
theorem lh {ok:Bool}{err at_:Int}{n:Nat}(h:ok=false):p5 ok err at_ n=if err≠0 then err else 8:=by subst h;simp[p5]
def AX (r:Nat)(ok:Bool)(e:Ending):Prop:=(ok=true∧e=.returned (.tuple #[]))∨(ok=false∧(xv (.iface 271 (.agg #[.pointer (some ⟨r,0,none⟩)])) e∨∃(tx:TypeId) (vx:Value),tx≠271∧xv (.iface tx vx) e))
theorem Gi:∀(l:List PanicEntry),l.all (fun x=>!x.goexit)=true→l.dropWhile (fun x=>!x.goexit)=[]
 | [],_=>rfl
 | x :: l, h => by
   simp only[List.all_cons,Bool.and_eq_true]at h;rw[List.dropWhile_cons,if_pos h.1,Gi l h.2]
theorem Bt {v:Value}{older:List PanicEntry}(ho:older.all (fun x=>!x.goexit)=true):settle (.panicking ({ v:=v,recovered:=true }::older))=.returning:=by
 simp only[settle];rw[Gi older ho]
theorem Ix {v:Value}{older:List PanicEntry}(c₀:Frame)(cs:List Frame)(hc:c₀.mode=.panicking ({ v:=v,recovered:=false }::older)):recoverD (c₀::cs)=some (v,{ c₀ with mode:=.panicking ({ v:=v,recovered:=true }::older) }::cs):=by
 simp only[recoverD,hc]
theorem JT (c₀:Frame)(cs:List Frame)(hc:c₀.mode=.returning):recoverD (c₀::cs)=none:=by
 simp only[recoverD,hc]
theorem jk (W w:World)(L:List As)(A:Option Addr)(c:Nat)(bs:List UInt8)(Φ:Nat→Int→Int→Bool→List As→Prop)(fid:Nat)(caps:List Value)(O:Sat W w (L))(hb:bs.length≤140737488355328)(hen:enters Tryz.prog fid=true)(hcl:∀(w:World) (r q p:Nat),Sat W w (gU r A c bs 0 true 0::iq q r::gV p 0::L)→Calls Tryz.prog fid ([Value.pointer (some ⟨r,0,none⟩)]++caps).toArray w fun e w'=>∃(at' err:Int) (ok:Bool) (M:List As),AX r ok e∧Sat W w' (gU r A c bs at' true err::iq q r::gV p 0::M)∧Φ r at' err ok M):Calls Tryz.prog 98 #[.slice A bs.length c,.func (.func fid) #[] caps.toArray] w fun e w'=>∃(r q p:Nat) (at' err:Int) (ok:Bool) (M:List As),e=.returned (.int .i64 (p5 ok err at' bs.length))∧Sat W w' (dead r at' err::iq q r::gV p (p5 ok err at' bs.length)::M)∧Φ r at' err ok M:=by
 refine F0 Tryz.func98 rfl rfl rfl (.cons (i:=0) rfl (.cons (i:=1) rfl .nil)) ?_;intro a I;refine wp_seq_k fun k1 hk1=>?_;refine wp_region_lit ?_;refine goN I rfl JK O ?_;clear I a O;intro b4 w O a I;refine wpList_nil ?_;refine hk1 _ _ ?_;clear hk1 k1;refine wp_seq_k fun k2 hk2=>?_;refine wp_region_lit ?_;refine yn I rfl rfl rfl (xA (I.ev rfl)) ?_;clear I a;intro a I;refine yn I rfl rfl rfl (aM I rfl C6) ?_;clear I a;intro a I;refine Kj I rfl rfl O ?_;clear I a O;intro b8 w O a I;refine goN I rfl Ib O ?_;clear I a O;intro b5 w O a I;refine mQ I rfl rfl zK I8 rfl O rfl ?_;clear O;intro w O;refine wpList_nil ?_;refine hk2 _ _ ?_;clear hk2 k2;replace I:=I.yi (.cons (i:=1) rfl (.cons (i:=4) rfl (.cons (i:=5) rfl .nil)));refine wp_seq_k fun k3 hk3=>?_;refine wp_region_lit ?_
 refine yn I rfl rfl rfl (qn (I.ml rfl)) ?_;clear I a;intro a I;refine FN I rfl ?_;clear I a;intro a I;refine wpList_nil ?_;refine hk3 _ _ ?_;clear hk3 k3;replace I:=I.yi (.cons (i:=1) rfl (.cons (i:=4) rfl (.cons (i:=5) rfl .nil)));refine wp_seq_k fun k4 hk4=>?_;refine wp_seq_k fun k5 hk5=>?_;refine wp_region_lit ?_;refine yn I rfl rfl rfl (xA (I.ev rfl)) ?_;clear I a;intro a I;refine yn I rfl rfl rfl (Hm (I.ev rfl) (I.ev rfl) (Aw Ic).choose_spec.choose_spec.choose_spec) ?_;clear I a;intro a I;refine wpList_nil ?_;refine hk5 _ _ ?_;clear hk5 k5;replace I:=I.yi (.cons (i:=1) rfl (.cons (i:=4) rfl (.cons (i:=5) rfl (.cons (i:=11) rfl .nil))));refine wp_cond_true (I.ev rfl) ?_;refine wp_region_lit ?_;refine yn I rfl rfl rfl (xA (I.ev rfl)) ?_;clear I a;intro a I
 refine yn I rfl rfl rfl (aj (I.ev rfl) zK (by exact O.cell rfl)) ?_;clear I a;intro a I;refine AO I rfl hen rfl rfl (hcl _ b8 b5 b4 O.qv) ?_;obtain⟨r,hr⟩:∃r,r=b8:=⟨_,rfl⟩;obtain⟨q,hq⟩:∃q,q=b5:=⟨_,rfl⟩;obtain⟨p,hp⟩:∃p,p=b4:=⟨_,rfl⟩;subst hr hq hp;clear O;rintro e w ⟨at',err,ok,M,(⟨hok,rfl⟩ | ⟨hok,(⟨older,rfl,ho⟩ | ⟨tx,vx,htx,older,rfl,ho⟩)⟩),O,hΦ⟩
 ·
  skip
  change Sat W w (a6 r (.cells #[.slice A bs.length c,.int .i64 at',.bool true,.int .i64 err] 269)::a6 q (.cells #[.pointer (some ⟨r,0,none⟩)] 196)::a6 p (.cells #[.int .i64 0] 27)::M) at O;refine .inl ⟨_,rfl,?_⟩;clear I a;intro a I;refine wpList_nil ?_;refine hk4 _ _ ?_;clear hk4 k4;replace I:=I.yi (.cons (i:=4) rfl .nil);refine wp_seq_k fun k6 hk6=>?_;refine wp_region_lit ?_;refine mQ I rfl rfl qe rJ rfl (O.p 2) rfl ?_;clear O;intro w O;refine wpList_nil ?_;refine hk6 _ _ ?_;clear hk6 k6;refine wp_ret ?_;replace O:=((O.p 2).p 2);exact og W w M r q p at' err .nilIface .returning .returning (by simp) (fun c₀ cs hc=>.inr ⟨JT c₀ cs hc,rfl,rfl⟩) rfl (p5 ok err at' bs.length) (fun a I=>by have hh:=Dj W w M r q p A bs.length c at' err 0 true hb a I O;rw[lU hok];exact hh) I rfl (fun w' O=>⟨r,q,p,at',err,ok,M,by rfl,O,hΦ⟩)
 ·
  skip
  refine .inr ⟨_,rfl,?_⟩;refine u9 ?_;clear hk4 k4;change Sat W w (a6 r (.cells #[.slice A bs.length c,.int .i64 at',.bool true,.int .i64 err] 269)::a6 q (.cells #[.pointer (some ⟨r,0,none⟩)] 196)::a6 p (.cells #[.int .i64 0] 27)::M) at O;exact og W w M r q p at' err (.iface 271 (.agg #[.pointer (some ⟨r,0,none⟩)])) (.panicking ({ v:=(.iface 271 (.agg #[.pointer (some ⟨r,0,none⟩)])),recovered:=false }::older)) (.panicking ({ v:=(.iface 271 (.agg #[.pointer (some ⟨r,0,none⟩)])),recovered:=true }::older)) (by simp) (fun c₀ cs hc=>.inl (Ix c₀ cs hc)) (Bt ho) (p5 ok err at' bs.length) (fun a I=>by have hh:=Co W w M r q p A bs.length c at' err 0 true hb a I O;rw[lh hok];exact hh) I rfl (fun w' O=>⟨r,q,p,at',err,ok,M,by rfl,O,hΦ⟩)
 ·
  skip
  refine .inr ⟨_,rfl,?_⟩;refine u9 ?_;clear hk4 k4;change Sat W w (a6 r (.cells #[.slice A bs.length c,.int .i64 at',.bool true,.int .i64 err] 269)::a6 q (.cells #[.pointer (some ⟨r,0,none⟩)] 196)::a6 p (.cells #[.int .i64 0] 27)::M) at O;exact og W w M r q p at' err (.iface tx vx) (.panicking ({ v:=(.iface tx vx),recovered:=false }::older)) (.panicking ({ v:=(.iface tx vx),recovered:=true }::older)) (by simp) (fun c₀ cs hc=>.inl (Ix c₀ cs hc)) (Bt ho) (p5 ok err at' bs.length) (fun a I=>by have hh:=yr W w M r q p A bs.length c at' err 0 true tx vx htx hb a I O;rw[lh hok];exact hh) I rfl (fun w' O=>⟨r,q,p,at',err,ok,M,by rfl,O,hΦ⟩)
end Go.Proofs.YtkjabaihpkbfhaaGreat.Wk
namespace Go.Proofs.YtkjabaihpkbfhaaGreat.Wk
open Go Go.RowKit Go.Proofs.YtkjabaihpkbfhaaGreat Go.Proofs.YtkjabaihpkbfhaaGreat.K Go.Proofs.YtkjabaihpkbfhaaGreat.T
def seqB {α:Type}(g:Option α→α→List UInt8):Option α→List α→List UInt8
 | _,[]=>[]
 | p,x::l=>g p x++seqB g (some x) l
def iU {α:Type}(F:Option α→α→Prop):Option α→List α→Prop
 | _,[]=>True
 | p,x::l=>F p x∧iU F (some x) l
theorem oS {α:Type}{f:Option α→α→Bool}:∀ {l:List α} {p:Option α},kz f p l=true↔iU (fun p x=>f p x=true) p l
 | [],_=>by simp[kz,iU]
 | x::l,p=>by rw[kz,iU,Bool.and_eq_true,oS]
theorem wU {α:Type}{F G:Option α→α→Prop}(h:∀p x,F p x→G p x):∀ {l:List α} {p:Option α},iU F p l→iU G p l
 | [],_,_=>trivial
 | _::_,_,hc=>⟨h _ _ hc.1,wU h hc.2⟩
def fh {α:Type}(f:Option α→List UInt8→Option (α×List UInt8)):Nat→Option α→List UInt8→Option (List α×List UInt8)
 | 0,_,l=>some ([],l)
 | n + 1, p, l => match f p l with
   | none=>none
   | some (x, r) => match fh f n (some x) r with
     | none=>none
     | some (xs,r')=>some (x::xs,r')
theorem wA {α:Type}{f:Option α→List UInt8→Option (α×List UInt8)}{n:Nat}{p:Option α}{l:List UInt8}(h:f p l=none):fh f (n+1) p l=none:=by rw[fh,h]
theorem sg {α:Type}{f:Option α→List UInt8→Option (α×List UInt8)}{n:Nat}{p:Option α}{l r:List UInt8}{x:α}(h:f p l=some (x,r)):fh f (n+1) p l=(fh f n (some x) r).map fun q=>(x::q.1,q.2):=by
 rw[fh,h];simp only;cases fh f n (some x) r with
 | none=>rfl
 | some q=>rfl
structure G4 (α:Type) where
 g:Option α→α→List UInt8
 F:Option α→α→Prop
 f:Option α→List UInt8→Option (α×List UInt8)
 P:Option α→Prop
 law:∀p,P p→∀l x r,f p l=some (x,r)↔l=g p x++r∧F p x
 step:∀p x,P p→F p x→P (some x)
theorem G4.seq {α:Type}(M:G4 α):∀(n:Nat) (p:Option α),M.P p→∀l xs r,fh M.f n p l=some (xs,r)↔l=seqB M.g p xs++r∧iU M.F p xs∧xs.length=n
 | 0, p, hp, l, xs, r => by
   rw[fh];constructor
   ·
    intro h;cases h;exact⟨rfl,trivial,rfl⟩
   ·
    rintro ⟨rfl,_,h⟩;obtain rfl:=List.eq_nil_of_length_eq_zero h
    rfl
 | n + 1, p, hp, l, xs, r => by
   constructor
   ·
    intro h;cases e:M.f p l with
    | none=>rw[wA e]at h;cases h
    | some q =>
      obtain⟨x,l'⟩:=q;rw[sg e]at h;obtain⟨⟨ys,r'⟩,hq,h2⟩:=Option.map_eq_some_iff.1 h;cases h2;obtain⟨rfl,hF⟩:=(M.law p hp l x l').1 e;obtain⟨rfl,hc,hl⟩:=(M.seq n (some x) (M.step p x hp hF) l' ys r').1 hq;exact⟨by rw[seqB,List.append_assoc],⟨hF,hc⟩,by simp[hl]⟩
   ·
    rintro ⟨rfl,hc,hl⟩;cases xs with
    | nil=>cases hl
    | cons x xs =>
      have e:=(M.law p hp (seqB M.g p (x::xs)++r) x (seqB M.g (some x) xs++r)).2 ⟨by rw[seqB,List.append_assoc],hc.1⟩;rw[sg e,(M.seq n (some x) (M.step p x hp hc.1) _ xs r).2 ⟨rfl,hc.2,by simpa using hl⟩]
      rfl
theorem jA {α:Type}{g:Option α→α→List UInt8}{k:Nat}(h:∀p x,k≤(g p x).length):∀(l:List α) (p:Option α),l.length * k≤(seqB g p l).length
 | [],_=>by simp
 | x :: l, p => by
   have:=h p x;have:=jA h l (some x);rw[seqB,List.length_append,List.length_cons,Nat.add_mul];omega
theorem sn {α:Type}{g:Option α→α→List UInt8}:∀(l:List α) (p:Option α) (x:α),seqB g p (l++[x])=seqB g p l++g (match l.getLast? with | some y=>some y | none=>p) x
 | [],p,x=>by simp[seqB]
 | y :: l, p, x => by
   rw[List.cons_append,seqB,seqB,sn l (some y) x,List.append_assoc]
   congr 3
   cases l with
   | nil=>rfl
   | cons z l =>
     rw[List.getLast?_cons_cons];cases e:(z::l).getLast? with
     | none=>simp at e
     | some y=>rfl
def bM (most:Int)(l:List UInt8):Option (Nat×List UInt8):=if (iF 9 0 l).1=0∧((iF 9 0 l).2.1:Int)≤most then some ((iF 9 0 l).2.1,l.drop (iF 9 0 l).2.2) else none
theorem bD {most:Int}{l r:List UInt8}{v:Nat}:bM most l=some (v,r)↔l=aE v++r∧(v:Int)≤most∧v≤9223372036854775807:=by
 unfold bM;constructor
 ·
  intro h
  split at h
  ·
   rename_i hc;obtain⟨rfl,rfl⟩:(iF 9 0 l).2.1=v∧l.drop (iF 9 0 l).2.2=r:=by simpa using h
   have e:iF 9 0 l=(0,(iF 9 0 l).2.1,(iF 9 0 l).2.2):=Prod.ext hc.1 rfl;obtain⟨_,_,h3,_,h5⟩:=yk 9 0 l _ _ e;refine⟨?_,hc.2,by have:(128:Nat) ^ 9=9223372036854775808:=(by decide);omega⟩;rw[←h5,List.take_append_drop]
  ·
   cases h
 ·
  rintro ⟨rfl,h1,h2⟩;have e:=Ec 9 0 v r (by have:(128:Nat) ^ 9=9223372036854775808:=(by decide);omega) (fun h=>absurd h (by omega)) (by omega);rw[e];simp[h1]
def dh (most:Int)(l:List UInt8):Option (List UInt8×List UInt8):=match bM most l with
 | none=>none
 | some (n,r)=>if n≤r.length then some (r.take n,r.drop n) else none
theorem eH {most:Int}{l r s:List UInt8}:dh most l=some (s,r)↔l=aE s.length++s++r∧(s.length:Int)≤most∧s.length≤9223372036854775807:=by
 unfold dh;constructor
 ·
  intro h
  split at h
  ·
   cases h
  ·
   rename_i n r' e;obtain⟨rfl,h1,h2⟩:=bD.1 e
   split at h
   ·
    rename_i hn;obtain⟨rfl,rfl⟩:r'.take n=s∧r'.drop n=r:=by simpa using h
    have hl:(r'.take n).length=n:=by simp;omega
    rw[hl,List.append_assoc,List.take_append_drop];exact⟨rfl,h1,h2⟩
   ·
    cases h
 ·
  rintro ⟨rfl,h1,h2⟩;rw[List.append_assoc,bD.2 ⟨rfl,h1,h2⟩];simp
theorem xK {bs:List UInt8}{i:Nat}{mo:Int}(h:(gH bs i mo).2.2=0):bM mo (bs.drop i)=some ((gH bs i mo).1,bs.drop (gH bs i mo).2.1):=by
 by_cases h1:(fm bs i).2.2=0
 ·
  by_cases h2:((fm bs i).1:Int)≤mo
  ·
   rw[uj h1 h2]
   by_cases h3:(iF 9 0 (bs.drop i)).1=0
   ·
    unfold fm at h2 ⊢;rw[if_pos h3]at h2 ⊢;simp only at h2 ⊢;unfold bM;rw[if_pos ⟨h3,h2⟩,List.drop_drop]
   ·
    unfold fm at h1;rw[if_neg h3]at h1;exact absurd h1 h3
  ·
   rw[uI h1 (by omega)]at h;cases h
 ·
  rw[ti h1]at h;exact absurd h h1
theorem vb {bs:List UInt8}{i:Nat}{mo:Int}(h:(gH bs i mo).2.2≠0):bM mo (bs.drop i)=none:=by
 unfold bM;rw[if_neg];rintro ⟨h1,h2⟩;apply h;have h3:fm bs i=((iF 9 0 (bs.drop i)).2.1,i+(iF 9 0 (bs.drop i)).2.2,0):=by unfold fm;rw[if_pos h1]
 rw[uj (by rw[h3]) (by rw[h3];exact h2)]
theorem DR {bs:List UInt8}{i:Nat}{mo:Int}(h:(nB bs i mo).2.2=0):dh mo (bs.drop i)=some ((nB bs i mo).1,bs.drop (nB bs i mo).2.1):=by
 by_cases h1:(gH bs i mo).2.2=0
 ·
  by_cases h2:(gH bs i mo).1≤bs.length-(gH bs i mo).2.1
  ·
   rw[tF h1 h2];unfold dh;rw[xK h1];simp only;rw[if_pos (by rw[List.length_drop];exact h2),List.drop_drop]
  ·
   rw[oE h1 (by omega)]at h;cases h
 ·
  rw[th h1]at h;exact absurd h h1
theorem wx {bs:List UInt8}{i:Nat}{mo:Int}(h:(nB bs i mo).2.2≠0):dh mo (bs.drop i)=none:=by
 unfold dh
 by_cases h1:(gH bs i mo).2.2=0
 ·
  rw[xK h1];simp only;rw[if_neg];intro h2;rw[List.length_drop]at h2;rw[tF h1 h2]at h;exact h rfl
 ·
  rw[vb h1]
def ki (most:Int):G4 Int where
 g _ x:=aE x.toNat
 F _ x:=0≤x∧x≤most∧x≤9223372036854775807
 f _ l := match bM most l with
   | none=>none
   | some (v,r)=>some ((v:Int),r)
 P _:=True
 step _ _ _ _:=trivial
 law p _ l x r:=by
  constructor
  ·
   intro h
   split at h
   ·
    cases h
   ·
    rename_i v r' e;cases h;obtain⟨rfl,h1,h2⟩:=bD.1 e;exact⟨by simp,by omega,h1,by omega⟩
  ·
   rintro ⟨rfl,h1,h2,h3⟩;rw[bD.2 ⟨rfl,by omega,by omega⟩];simp[Int.toNat_of_nonneg h1]
def cF (p:Option aN):Int:=match p with | some q=>q.rep | none=>0
def bt (vec:List Int)(p:Option aN)(rep:Int):Int:=match p with
 | some q=>if q.rep=rep then q.hi+2 else av vec rep.toNat+2
 | none=>av vec rep.toNat+2
def gX (vec:List Int)(p:Option aN)(s:aN):List UInt8:=aE (s.rep-cF p).toNat++(aE (s.lo-bt vec p s.rep).toNat++aE (s.hi-s.lo).toNat)
def gD (vec:List Int)(p:Option aN)(l:List UInt8):Option (aN×List UInt8):=match bM 16 l with
 | none=>none
 | some (st, l1) => if 16 ≤ cF p + st then none else match bM 1000000000 l1 with
   | none=>none
   | some (sk, l2) => match bM 1000000000 l2 with
     | none=>none
     | some (mo,l3)=>if 1000000000<bt vec p (cF p+st)+sk+mo then none else some (⟨cF p+st,bt vec p (cF p+st)+sk,bt vec p (cF p+st)+sk+mo⟩,l3)
def td (vec:List Int)(hv:∀r,0≤av vec r):G4 aN where
 g:=gX vec
 F p s:=gl vec p s=true
 f:=gD vec
 P p:=∀q,p=some q→0≤q.rep∧0≤q.hi∧q.lo≤q.hi
 step p x hp h q hq:=by
  cases hq;unfold gl at h;simp only[Bool.and_eq_true,decide_eq_true_eq]at h;refine⟨h.1.1.1.1,?_,h.1.1.2⟩;have h2:=h.2;have:=hv x.rep.toNat;cases p with
  | none=>simp at h2;omega
  | some y =>
    have h3:=(hp y rfl).2.1;simp only[Bool.and_eq_true,decide_eq_true_eq]at h2;have h4:=h2.2
    split at h4<;>simp at h4<;>omega
 law p hp l x r:=by
  have hpr:0≤cF p:=by unfold cF;cases p with | none=>simp | some q=>exact (hp q rfl).1
  have hls:∀rep,0≤bt vec p rep:=fun rep=>by
   unfold bt;have:=hv rep.toNat;cases p with
   | none=>simp only;omega
   | some q=>have:=(hp q rfl).2.1;simp only;split<;>omega
  have hF:gl vec p x=true↔0≤x.rep∧x.rep<16∧x.lo≤x.hi∧x.hi≤1000000000∧cF p≤x.rep∧bt vec p x.rep≤x.lo:=by
   unfold gl bt cF;cases p with
   | none=>simp;omega
   | some q =>
     simp only[Bool.and_eq_true,decide_eq_true_eq];constructor
     ·
      rintro ⟨⟨⟨⟨a,b⟩,c⟩,d⟩,e,f⟩;refine⟨a,b,c,d,e,?_⟩
      split at f<;>rename_i he
      ·
       rw[if_pos he];simpa using f
      ·
       rw[if_neg he];simpa using f
     ·
      rintro ⟨a,b,c,d,e,f⟩;refine⟨⟨⟨⟨a,b⟩,c⟩,d⟩,e,?_⟩
      split at f<;>rename_i he
      ·
       rw[if_pos he];simpa using f
      ·
       rw[if_neg he];simpa using f
  rw[hF];unfold gD gX;constructor
  ·
   intro h
   split at h
   ·
    cases h
   ·
    rename_i st l1 e1
    split at h
    ·
     cases h
    ·
     rename_i hst
     split at h
     ·
      cases h
     ·
      rename_i sk l2 e2
      split at h
      ·
       cases h
      ·
       rename_i mo l3 e3
       split at h
       ·
        cases h
       ·
        rename_i hhi;obtain⟨rfl,_,_⟩:=bD.1 e1;obtain⟨rfl,_,_⟩:=bD.1 e2;obtain⟨rfl,_,_⟩:=bD.1 e3;cases h;have:=hls (cF p+st);refine⟨?_,by simp only;omega,by simp only;omega,by simp only;omega,by simp only;omega,by simp only;omega,by simp only;omega⟩;simp only;rw[show (cF p+(st:Int)-cF p).toNat=st from by omega,show (bt vec p (cF p+st)+(sk:Int)-bt vec p (cF p+st)).toNat=sk from by omega,show (bt vec p (cF p+st)+(sk:Int)+(mo:Int)-(bt vec p (cF p+st)+(sk:Int))).toNat=mo from by omega];simp only[List.append_assoc]
  ·
   rintro ⟨rfl,a,b,c,d,e,f⟩;have:=hls x.rep;rw[List.append_assoc,bD.2 ⟨rfl,by omega,by omega⟩];simp only;have e1:cF p+((x.rep-cF p).toNat:Int)=x.rep:=by omega
   rw[e1,if_neg (by omega),List.append_assoc,bD.2 ⟨rfl,by omega,by omega⟩];simp only;rw[bD.2 ⟨rfl,by omega,by omega⟩];simp only;have e2:bt vec p x.rep+((x.lo-bt vec p x.rep).toNat:Int)=x.lo:=by omega
   have e3:x.lo+((x.hi-x.lo).toNat:Int)=x.hi:=by omega
   rw[e2,e3,if_neg (by omega)]
def cB (p:aJ):List UInt8:=aE p.vec.length++(seqB (ki 1000000000).g none p.vec++(aE p.ab.length++seqB (gX p.vec) none p.ab))
def fp (l:List UInt8):Option (aJ×List UInt8):=match bM 16 l with
 | none=>none
 | some (n, l1) => match fh (ki 1000000000).f n none l1 with
   | none=>none
   | some (vec, l2) => match bM 9223372036854775807 l2 with
     | none=>none
     | some (k, l3) => match fh (gD vec) k none l3 with
       | none=>none
       | some (ab,r)=>some (⟨vec,ab⟩,r)
theorem mI {most:Int}:∀ {l:List Int} {p:Option Int},iU (ki most).F p l↔∀v∈l,0≤v∧v≤most∧v≤9223372036854775807
 | [],_=>by simp[iU]
 | x::l,p=>by rw[iU,mI];simp[ki]
theorem um {v:List Int}(h:∀x∈v,0≤x)(r:Nat):0≤av v r:=by
 unfold av;cases e:v[r]? with
 | none=>simp
 | some x=>exact h x (List.mem_of_getElem? e)
theorem je {l r:List UInt8}{p:aJ}(hp:p.ab.length≤9223372036854775807):fp l=some (p,r)↔l=cB p++r∧AD p:=by
 unfold fp cB;constructor
 ·
  intro h
  split at h
  ·
   cases h
  ·
   rename_i n l1 e1
   split at h
   ·
    cases h
   ·
    rename_i vec l2 e2
    split at h
    ·
     cases h
    ·
     rename_i k l3 e3
     split at h
     ·
      cases h
     ·
      rename_i ab r' e4;cases h;obtain⟨rfl,h1,_⟩:=bD.1 e1;obtain⟨rfl,h3,h4⟩:=((ki 1000000000).seq _ none trivial _ _ _).1 e2;obtain⟨rfl,_,_⟩:=bD.1 e3;have hv:=mI.1 h3;obtain⟨rfl,h5,h6⟩:=((td vec (um fun x hx=>(hv x hx).1)).seq _ none (fun q hq=>by cases hq) _ _ _).1 e4;subst h4 h6;refine⟨by simp only[List.append_assoc];rfl,⟨by show vec.length≤16;omega,fun v hx=>⟨(hv v hx).1,(hv v hx).2.1⟩,oS.2 h5⟩⟩
 ·
  rintro ⟨rfl,h1,h2,h3⟩;rw[List.append_assoc,bD.2 ⟨rfl,by omega,by omega⟩];simp only;rw[List.append_assoc,((ki 1000000000).seq _ none trivial _ _ _).2 ⟨rfl,mI.2 fun v hv=>⟨(h2 v hv).1,(h2 v hv).2,by have:=(h2 v hv).2;omega⟩,rfl⟩];simp only;rw[List.append_assoc,bD.2 ⟨rfl,by omega,hp⟩];simp only;have e:=((td p.vec (um fun x hx=>(h2 x hx).1)).seq p.ab.length none (fun q hq=>by cases hq) (seqB (gX p.vec) none p.ab++r) p.ab r).2 ⟨rfl,oS.1 h3,rfl⟩;rw[show fh (gD p.vec) p.ab.length none (seqB (gX p.vec) none p.ab++r)=some (p.ab,r) from e]
theorem w6 (vec:List Int)(p:Option aN)(s:aN):3≤(gX vec p s).length:=by
 unfold gX;have:=cm (s.rep-cF p).toNat;have:=cm (s.lo-bt vec p s.rep).toNat;have:=cm (s.hi-s.lo).toNat;simp only[List.length_append];omega
theorem Fo {α:Type}(M:G4 α){c k:Nat}{p:Option α}{l r:List UInt8}{xs:List α}(hp:M.P p)(hk:∀p x,k≤(M.g p x).length)(h:fh M.f c p l=some (xs,r)):xs.length=c∧c * k+r.length≤l.length:=by
 obtain⟨rfl,_,h3⟩:=(M.seq c p hp l xs r).1 h;have:=jA hk xs p;subst h3;rw[List.length_append];exact⟨rfl,by omega⟩
def bC (p:Option aR):Int:=match p with | some q=>q.rep | none=>0
def dM (p:Option aR)(rep:Int):Int:=match p with
 | some q=>if q.rep=rep then q.num+1 else 1
 | none=>1
def mw (p:Option aR)(e:aR):List UInt8:=aE (e.rep-bC p).toNat++(aE (e.num-dM p e.rep).toNat++(aE e.cy.data.toList.length++(e.cy.data.toList++aE (e.qg-1).toNat)))
def me (p:Option aR)(l:List UInt8):Option (aR×List UInt8):=match bM 16 l with
 | none=>none
 | some (st, l1) => match bM 1000000000 l1 with
   | none=>none
   | some (sk, l2) => if 16 ≤ bC p + st ∨ 1000000000 < dM p (bC p + st) + sk then none else match dh 24 l2 with
     | none=>none
     | some (t, l3) => match bM 1000000 l3 with
       | none=>none
       | some (q,l4)=>some (⟨bC p+st,dM p (bC p+st)+sk,str t,q+1⟩,l4)
def ot (p:Option aR)(e:aR):Prop:=0≤e.rep∧e.rep<16∧1≤e.num∧e.num≤1000000000∧e.cy.data.toList.length≤24∧1≤e.qg∧e.qg≤1000001∧bC p≤e.rep∧dM p e.rep≤e.num
theorem yI (s:ByteArray):str s.data.toList=s:=by cases s;rfl
theorem yX (l:List UInt8):(str l).data.toList=l:=rfl
def xQ:G4 aR where
 g:=mw
 F:=ot
 f:=me
 P p:=∀q,p=some q→0≤q.rep∧0≤q.num
 step p x hp h q hq:=by cases hq;exact⟨h.1,by have:=h.2.2.1;omega⟩
 law p hp l x r:=by
  have hpr:0≤bC p:=by unfold bC;cases p with | none=>simp | some q=>exact (hp q rfl).1
  have hls:∀rep,1≤dM p rep:=fun rep=>by
   unfold dM;cases p with
   | none=>simp
   | some q=>have:=(hp q rfl).2;simp only;split<;>omega
  unfold me mw ot;constructor
  ·
   intro h
   split at h
   ·
    cases h
   ·
    rename_i st l1 e1
    split at h
    ·
     cases h
    ·
     rename_i sk l2 e2
     split at h
     ·
      cases h
     ·
      rename_i hc
      split at h
      ·
       cases h
      ·
       rename_i t l3 e3
       split at h
       ·
        cases h
       ·
        rename_i q l4 e4;cases h;obtain⟨rfl,_,_⟩:=bD.1 e1;obtain⟨rfl,_,_⟩:=bD.1 e2;obtain⟨rfl,h5,_⟩:=eH.1 e3;obtain⟨rfl,h6,_⟩:=bD.1 e4;have:=hls (bC p+st);simp only[yX];refine⟨?_,by omega,by omega,by omega,by omega,by omega,by omega,by omega,by omega,by omega⟩;rw[show (bC p+(st:Int)-bC p).toNat=st from by omega,show (dM p (bC p+st)+(sk:Int)-dM p (bC p+st)).toNat=sk from by omega,show ((q:Int)+1-1).toNat=q from by omega];simp only[List.append_assoc]
  ·
   rintro ⟨rfl,a,b,c,d,e,f,g,i,j⟩;have:=hls x.rep;rw[List.append_assoc,bD.2 ⟨rfl,by omega,by omega⟩];simp only;rw[List.append_assoc,bD.2 ⟨rfl,by omega,by omega⟩];simp only;have e1:bC p+((x.rep-bC p).toNat:Int)=x.rep:=by omega
   have e2:dM p x.rep+((x.num-dM p x.rep).toNat:Int)=x.num:=by omega
   rw[e1,e2,if_neg (by omega)];have e3:=(eH (most:=24) (l:=aE x.cy.data.toList.length++(x.cy.data.toList++aE (x.qg-1).toNat)++r) (s:=x.cy.data.toList) (r:=aE (x.qg-1).toNat++r)).2 ⟨by simp only[List.append_assoc],by omega,by omega⟩;rw[e3];simp only;rw[bD.2 ⟨rfl,by omega,by omega⟩];simp only[yI];rw[show ((x.qg-1).toNat:Int)+1=x.qg from by omega]
theorem Eg (p:Option aR)(e:aR):5-1≤(mw p e).length:=by
 unfold mw;have:=cm (e.rep-bC p).toNat;have:=cm (e.num-dM p e.rep).toNat;have:=cm e.cy.data.toList.length;have:=cm (e.qg-1).toNat;simp only[List.length_append];omega
def cI (es:List aR):List UInt8:=aE es.length++seqB mw none es
theorem i7 {es:List aR}(h:cd es=true):iU ot none es:=by
 refine wU (F:=fun p x=>eE p x=true) ?_ (oS.1 h);intro p x h;unfold eE fS dG at h;simp only[Bool.and_eq_true,decide_eq_true_eq]at h;obtain⟨⟨⟨⟨⟨⟨⟨a,b⟩,c⟩,d⟩,s⟩,q⟩,r⟩,k⟩:=h
 have hs:x.cy.data.toList.length≤24:=by
  unfold mN BW pF at s
  split at s
  ·
   simp at s
  ·
   split at s
   ·
    simp at s
   ·
    omega
 refine⟨a,b,c,d,hs,q,by omega,?_,?_⟩
 ·
  unfold bC;cases p with
  | none=>exact a
  | some y=>unfold mZ at k;simp at k;simp only;omega
 ·
  unfold dM;cases p with
  | none=>exact c
  | some y=>unfold mZ at k;simp at k;simp only;split<;>omega
def ie (_:Option bS)(r:bS):List UInt8:=aE r.cy.data.toList.length++(r.cy.data.toList++cB r.bB)
def sS (_:Option bS)(l:List UInt8):Option (bS×List UInt8):=match dh 24 l with
 | none=>none
 | some (t, l1) => match fp l1 with
   | none=>none
   | some (p,r)=>some (⟨str t,p⟩,r)
def EP (_:Option bS)(r:bS):Prop:=r.cy.data.toList.length≤24∧AD r.bB∧r.bB.ab.length≤9223372036854775807
theorem zk {l r:List UInt8}{p:aJ}(h:fp l=some (p,r)):p.ab.length≤9223372036854775807:=by
 unfold fp at h
 split at h
 ·
  cases h
 ·
  split at h
  ·
   cases h
  ·
   rename_i vec l2 e2
   split at h
   ·
    cases h
   ·
    rename_i k l3 e3
    split at h
    ·
     cases h
    ·
     rename_i ab r' e4;cases h;obtain⟨_,h3,_⟩:=((ki 1000000000).seq _ none trivial _ _ _).1 e2;have hv:=mI.1 h3;obtain⟨_,_,h6⟩:=((td vec (um fun x hx=>(hv x hx).1)).seq _ none (fun q hq=>by cases hq) _ _ _).1 e4;have:=(bD.1 e3).2.2;show ab.length≤_;omega
def ym:G4 bS where
 g:=ie
 F:=EP
 f:=sS
 P _:=True
 step _ _ _ _:=trivial
 law p hp l x r:=by
  unfold sS ie EP;constructor
  ·
   intro h
   split at h
   ·
    cases h
   ·
    rename_i t l1 e1
    split at h
    ·
     cases h
    ·
     rename_i q r' e2;cases h;have hc:=zk e2;obtain⟨rfl,h1,_⟩:=eH.1 e1;obtain⟨rfl,h2⟩:=(je hc).1 e2;simp only[yX];exact⟨by simp only[List.append_assoc],by omega,h2,hc⟩
  ·
   rintro ⟨rfl,h1,h2,h3⟩;have e3:=(eH (most:=24) (l:=aE x.cy.data.toList.length++(x.cy.data.toList++cB x.bB)++r) (s:=x.cy.data.toList) (r:=cB x.bB++r)).2 ⟨by simp only[List.append_assoc],by omega,by omega⟩;rw[e3];simp only;rw[(je h3).2 ⟨rfl,h2⟩];simp only[yI]
def bV (rs:List bS):List UInt8:=aE rs.length++seqB ie none rs
def pR (p:Nat)(A:Option Addr)(c:Nat)(bs:List UInt8)(bad:Bool):As:=a6 p (.cells #[.slice A bs.length c,.bool bad] 449)
theorem cU (W w:World)(L:List As)(p:Nat)(A:Option Addr)(c:Nat)(bs:List UInt8)(bad:Bool)(n:Int)(O:Sat W w (pR p A c (bs) bad::row 5 1 (.slice A (bs).length c) (bs).length ((bs).map ai)::L))(hl:bs.length≤140737488350000)(hn:n≤9223372036854775807):Calls Tryz.prog 90 #[.pointer (some ⟨p,0,none⟩),.int .i64 n] w fun e w'=>e=.returned (.tuple #[])∧∃A' c',Sat W w' (pR p A' c' (bs++(pb 1 n false .empty).1) (bad || !(pb 1 n false .empty).2)::row 5 1 (.slice A' (bs++(pb 1 n false .empty).1).length c') (bs++(pb 1 n false .empty).1).length ((bs++(pb 1 n false .empty).1).map ai)::L):=by
 refine bP Tryz.func90 [0,1] ?_;intro a I;change Sat W w (a6 p (.cells #[.slice A bs.length c,.bool bad] 449)::_) at O;refine rC 4 I ?_;clear I a;refine ng 0 0 (uP rfl rfl w4) ?_ ?_
 ·intro h5;intro a I;contradiction
 ·intro h5;refine uO 9 ?_;refine aK 0 0 (aq rfl rfl) ?_ ?_
  ·intro h7;refine uO 6 ?_;refine u1 0 (aZ rfl) ?_;refine u1 0 (aa rfl tg) ?_;intro a I;refine mQ I rfl rfl Eh Gu rfl O rfl ?_;clear O;intro w O;refine rO 4 I ?_;clear I a;intro a I;refine ji I rfl  ?_
   first
    | (rw[FF (by omega)];refine⟨rfl,A,c,?_⟩;simp only[List.append_nil,Bool.not_false,Bool.or_true];exact O)
    | (rw[rb (by omega),Int.toNat_natCast];refine⟨rfl,A1,c1,?_⟩;simp only[Bool.not_true,Bool.or_false];exact O)
  ·intro h7;refine uO 8 ?_;refine u1 0 (aZ rfl) ?_;refine u1 0 (aa rfl jq) ?_;refine u1 0 (ld rfl) ?_;obtain⟨m,rfl⟩:=Int.eq_ofNat_of_zero_le (show 0≤n by omega);refine uO 1 ?_;refine uF rfl (kr _ _ _ _ _ _ m (O.p 1) (by omega) (by omega)) ?_;clear O;rintro e w ⟨A1,c1,rfl,O⟩;refine u1 0 (aZ rfl) ?_;refine u1 0 (aa rfl jq) ?_;intro a I;refine mQ I rfl rfl nH jC rfl (O.p 1) rfl ?_;clear O;intro w O;refine rO 1 I ?_;clear I a;intro a I;refine fL (e:=.ret) ?_;refine ji I rfl  ?_
   first
    | (rw[FF (by omega)];refine⟨rfl,A,c,?_⟩;simp only[List.append_nil,Bool.not_false,Bool.or_true];exact O)
    | (rw[rb (by omega),Int.toNat_natCast];refine⟨rfl,A1,c1,?_⟩;simp only[Bool.not_true,Bool.or_false];exact O)
theorem nq (W w:World)(L:List As)(p:Nat)(A:Option Addr)(c:Nat)(bs:List UInt8)(bad:Bool)(s:ByteArray)(O:Sat W w (pR p A c (bs) bad::row 5 1 (.slice A (bs).length c) (bs).length ((bs).map ai)::L))(hl:bs.length≤140737488350000)(hl2:bs.length+s.size≤140737488350000):Calls Tryz.prog 391 #[.pointer (some ⟨p,0,none⟩),.string s] w fun e w'=>e=.returned (.tuple #[])∧∃A' c',Sat W w' (pR p A' c' (bs++(pb 3 0 false s).1) bad::row 5 1 (.slice A' (bs++(pb 3 0 false s).1).length c') (bs++(pb 3 0 false s).1).length ((bs++(pb 3 0 false s).1).map ai)::L):=by
 refine bP Tryz.func391 [0,1] ?_;intro a I;change Sat W w (a6 p (.cells #[.slice A bs.length c,.bool bad] 449)::_) at O;refine rC 3 I ?_;clear I a;refine ng 0 0 (D3 rfl rfl w4) ?_ ?_
 ·intro h5;refine uO 6 ?_;refine u1 0 (aZ rfl) ?_;refine u1 0 (aa rfl jq) ?_;refine u1 1 (ld rfl) ?_;refine uF rfl (vS _ _ _ _ _ _ s (O.p 1) (by omega)) ?_;clear O;rintro e w ⟨A1,c1,rfl,O⟩;refine u1 0 (aZ rfl) ?_;refine u1 0 (aa rfl jq) ?_;intro a I;refine mQ I rfl rfl nH jC rfl (O.p 1) rfl ?_;clear O;intro w O;refine rO 1 I ?_;clear I a;intro a I;refine fL (e:=.ret) ?_;refine ji I rfl  ?_;exact⟨rfl,_,_,O⟩
 ·intro h5;intro a I;contradiction
theorem nd (W:World)(W0:World)(L:List As)(p:Nat)(A:Option Addr)(c:Nat)(bs:List UInt8)(bad:Bool)(s0:Sat W0 W (pR p A c (bs) bad::L))(hR:Rd W 1 (.slice A bs.length c) bs.length (bs.map ai))(hl:bs.length≤140737488350000):Calls Tryz.prog 92 #[.pointer (some ⟨p,0,none⟩)] W fun e w'=>∃A' c',e=.returned (.tuple #[.slice A' (if bad then [] else bs).length c',.int .i64 (((if bad then 2 else 0):Nat):Int)])∧Sat W w' [row 5 1 (.slice A' (if bad then [] else bs).length c') (if bad then [] else bs).length ((if bad then [] else bs).map ai)]:=by
 refine bP Tryz.func92 [0] ?_;have O:=Sat.start W;intro a I;change Sat W0 W (a6 p (.cells #[.slice A bs.length c,.bool bad] 449)::L) at s0;refine rC 10 I ?_;clear I a;refine ng 0 0 (uP rfl rfl w4) ?_ ?_
 ·intro h5;intro a I;contradiction
 ·intro h5;refine uO 2 ?_;refine u1 0 (aZ rfl) ?_;refine u1 0 (aa rfl tg) ?_;refine u1 0 (aj rfl Eh (s0.rk O rfl)) ?_;refine ng 0 0 (vf rfl rfl) ?_ ?_
  ·intro h11;refine uO 11 ?_;refine ft ?_
   first
    | (subst h11;exact⟨none,0,rfl,O.aX 5 1⟩)
    | (subst h11;exact⟨_,_,rfl,O⟩)
  ·intro h11;refine uO 8 ?_;refine u1 0 (aZ rfl) ?_;refine u1 0 (aa rfl jq) ?_;refine u1 0 (aj rfl nH (s0.rk O rfl)) ?_;refine uF rfl (oo _ _ _ bs (hR.sat O) (by omega)) ?_;rintro e w ⟨A1,c1,rfl,hT⟩;replace O:=O.au hT;clear hT;refine uO 5 ?_;refine ft ?_
   first
    | (subst h11;exact⟨none,0,rfl,O.aX 5 1⟩)
    | (subst h11;exact⟨_,_,rfl,O⟩)
theorem dT {α:Type}{g:Option α→α→List UInt8}{xs:List α}{i:Nat}{x:α}(h:xs[i]?=some x):seqB g none (xs.take (i+1))=seqB g none (xs.take i)++g (ahead none xs i) x:=by
 rw[ay h,sn]
 congr 2
 have hi:=(List.getElem?_eq_some_iff.1 h).1;unfold ahead
 by_cases h0:i=0
 ·
  subst h0;simp
 ·
  rw[if_neg h0]
  have:(xs.take i).getLast?=xs[i-1]?:=by
   rw[List.getLast?_eq_getElem?,List.length_take,Nat.min_eq_left (by omega),List.getElem?_take,if_pos (by omega)]
  rw[this,List.getElem?_eq_getElem (by omega)]
theorem Dr {α:Type}{xs:List α}{i:Nat}(hi:i≤xs.length):(xs.take i).getLast?=ahead none xs i:=by
 unfold ahead
 by_cases h0:i=0
 ·
  subst h0;simp
 ·
  rw[if_neg h0,List.getLast?_eq_getElem?,List.length_take,Nat.min_eq_left hi,List.getElem?_take,if_pos (by omega)]
theorem cG {α:Type}{xs:List α}{i:Nat}{x:α}(h:xs[i]?=some x):ahead none xs (i+1)=some x:=by unfold ahead;rw[if_neg (by omega)];exact h
theorem xP {vec:List Int}{p:Option aN}{s:aN}(h:gl vec p s=true):0≤s.rep∧s.rep<16∧s.lo≤s.hi∧s.hi≤1000000000∧cF p≤s.rep∧bt vec p s.rep≤s.lo:=by
 unfold gl at h;unfold bt cF;cases p with
 | none=>simp at h;simp only;omega
 | some q =>
   simp only[Bool.and_eq_true,decide_eq_true_eq]at h;obtain⟨⟨⟨⟨a,b⟩,c⟩,d⟩,e,f⟩:=h;refine⟨a,b,c,d,e,?_⟩;simp only
   split at f<;>rename_i he
   ·
    rw[if_pos he];simpa using f
   ·
    rw[if_neg he];simpa using f
theorem gA {p:aJ}(h:AD p){i:Nat}{s:aN}(hs:p.ab[i]?=some s):0≤s.rep∧s.rep<16∧s.lo≤s.hi∧s.hi≤1000000000∧cF (ahead none p.ab i)≤s.rep∧bt p.vec (ahead none p.ab i) s.rep≤s.lo:=xP (lH h.ab i s hs)
theorem qZ {p:aJ}(h:AD p):∀(i:Nat) (s:aN),p.ab[i]?=some s→1≤s.lo:=by
 intro i
 induction i with
 | zero =>
   intro s hs;obtain⟨a,b,c,d,f,g⟩:=gA h hs;have hv:=dt h.vec s.rep.toNat;simp[ahead,bt]at g;omega
 | succ i ih =>
   intro s hs;have hi:=(List.getElem?_eq_some_iff.1 hs).1;have hq:p.ab[i]?=some p.ab[i]:=List.getElem?_eq_getElem (by omega);obtain⟨a,b,c,d,f,g⟩:=gA h hs;rw[cG hq]at g;have hv:=dt h.vec s.rep.toNat;have h1:=ih _ hq;have h2:=(gA h hq).2.2.1;unfold bt at g;simp only at g
   split at g<;>omega
theorem qs {p:aJ}(h:AD p){i:Nat}(r:Int):0≤bt p.vec (ahead none p.ab i) r∧bt p.vec (ahead none p.ab i) r≤1000000002:=by
 have hv:=dt h.vec r.toNat;unfold bt;cases e:ahead none p.ab i with
 | none=>simp only;omega
 | some q =>
   simp only
   split
   ·
    unfold ahead at e
    split at e
    ·
     cases e
    ·
     obtain⟨a,b,c,d,f,g⟩:=gA h e;have:=qZ h _ _ e;omega
   ·
    omega
theorem sJ {p:aJ}(h:AD p)(i:Nat):0≤cF (ahead none p.ab i):=by
 unfold cF;cases e:ahead none p.ab i with
 | none=>simp
 | some q =>
   unfold ahead at e
   split at e
   ·
    cases e
   ·
    exact (gA h e).1
theorem xk {es:List aR}(h:iU ot none es){i:Nat}{e:aR}(he:es[i]?=some e):ot (ahead none es i) e:=by
 have:∀(l:List aR) (p:Option aR) (i:Nat) (e:aR),iU ot p l→l[i]?=some e→ot (ahead p l i) e:=by
  intro l
  induction l with
  | nil=>intro p i e _ h;simp at h
  | cons y l ih =>
    intro p i e hc hi;cases i with
    | zero=>simp at hi;subst hi;simpa[ahead]using hc.1
    | succ i =>
      have h1:=ih (some y) i e hc.2 (by simpa using hi)
      have e2:ahead p (y::l) (i+1)=ahead (some y) l i:=by
       unfold ahead;simp;cases i with
       | zero=>simp
       | succ i=>simp
      rw[e2];exact h1
 exact this es none i e h he
theorem wR {α:Type}{enc:α→List Value}{k:Nat}(hk:∀x,(enc x).length=k):∀(xs:List α) (i:Nat),(xs.flatMap enc).take (i * k)=(xs.take i).flatMap enc
 | xs,0=>by simp
 | [],i+1=>by simp
 | x :: xs, i + 1 => by
   rw[List.flatMap_cons,List.take_append,List.take_of_length_le (by rw[hk,Nat.add_mul];omega),hk,show (i+1) * k-k=i * k from by rw[Nat.add_mul];omega,wR hk xs i]
   rfl
theorem Dh {w:World}{A:Option Addr}{c n i:Nat}{xs:List aN}(h:Rd w 3 (.slice A n c) n (xs.flatMap gm))(hi:i≤n):Rd w 3 (.slice (i6 A c 3 0) i c) i ((xs.take i).flatMap gm):=by
 have:=Rd.Gr h i hi;rwa[wR zi]at this
theorem pH {vec:List Int}{cl:List aN}{n:Nat}{s:aN}(hn:n=cl.length)(hs:cl[n-1]?=some s):cl.getLast?=some s:=by subst hn;rw[List.getLast?_eq_getElem?];exact hs
theorem sL (W:World)(A:Option Addr)(c:Nat)(vec:List Int)(r:Int)(B:Option Addr)(n d:Nat)(cl:List aN)(hV:j2 W A c vec)(hC:Rd W 3 (.slice B n d) n (cl.flatMap gm))(hn:n=cl.length)(hr0:0≤r)(hr1:r≤1000)(hv0:∀v∈vec,0≤v∧v≤1000000000)(hc0:∀s∈cl,0≤s.hi∧s.hi≤1000000000)(hl1:vec.length≤1000000000000)(hl2:n≤1000000000000):Calls Tryz.prog 392 #[.slice A (vec).length c,.int .i64 r,.slice B n d] W fun e w'=>e=.returned (.int .i64 (bt vec cl.getLast? r))∧Sat W w' []:=by
 refine bP Tryz.func392 [0,1,2] ?_;have O:=Sat.start W;refine uC 9 ?_;refine u1 6 (ak rfl dk) ?_;refine aK 0 0 (dx rfl rfl) ?_ ?_
 ·intro h11;refine uO 3 ?_;refine u1 0 (aH (sb rfl rfl) (show _=Value.int .i64 ((n-1:Nat):Int) from congrArg (Value.int .i64) (by omega))) ?_;obtain⟨B_p,rfl⟩:∃q,B=some q:=(hC.sat O).ao (by omega);obtain⟨s,hs⟩:∃zz_,cl[n-1]?=some zz_:=⟨_,List.getElem?_eq_getElem (by omega)⟩;obtain⟨hs1,hs2⟩:=hc0 s (List.mem_of_getElem? hs);refine u1 0 (ix rfl rfl dk cL) ?_;refine u1 0 (aw rfl bT) ?_;refine u1 1 (aj rfl dE (bI (hC.sat O) (dD hs 0 _ rfl))) ?_;refine aK 0 0 (aY rfl rfl) ?_ ?_
  ·intro h20;refine uO 8 ?_;refine u1 0 (aH (sb rfl rfl) (show _=Value.int .i64 ((n-1:Nat):Int) from congrArg (Value.int .i64) (by omega))) ?_;refine u1 0 (ix rfl rfl dk cL) ?_;refine u1 0 (aw rfl dW) ?_;refine u1 0 (aj rfl dE (bI (hC.sat O) (dD hs 2 _ rfl))) ?_;refine u1 3 (ad rfl rfl) ?_;intro a I;replace I:=I.kp [0,1,6] rfl;refine rC 2 I ?_;clear I a;refine aS ?_;refine⟨?_,O⟩;unfold bt;rw[pH (vec:=vec) hn hs];simp only;rw[if_pos h20]
  ·intro h20;refine uO 11 ?_;refine u1 0 (ak rfl aA) ?_;refine aK 0 0 (aq rfl rfl) ?_ ?_
   ·intro h32;refine uO 2 ?_;intro a I;replace I:=I.kp [0,1,6,32] rfl;refine rC 5 I ?_;clear I a;obtain⟨A_p,rfl⟩:∃q,A=some q:=(hV.sat O).ao (by omega);obtain⟨v,hv⟩:∃zz_,vec[r.toNat]?=some zz_:=⟨_,List.getElem?_eq_getElem (by omega)⟩;obtain⟨hv1,hv2⟩:=hv0 v (List.mem_of_getElem? hv);refine u1 0 (ix rfl rfl aA fO) ?_;refine u1 0 (aj rfl dE (eO (hV.sat O) (aV hv))) ?_;refine u1 5 (ad rfl rfl) ?_;refine aS ?_;refine⟨?_,O⟩;unfold bt;rw[pH (vec:=vec) hn hs];simp only;rw[if_neg h20,show av vec r.toNat=v from by unfold av;rw[hv]]
   ·intro h32;refine uO 2 ?_;intro a I;replace I:=I.kp [0,1,6,32] rfl;refine rC 9 I ?_;clear I a;refine aS ?_;refine⟨?_,O⟩;unfold bt;rw[pH (vec:=vec) hn hs];simp only;rw[if_neg h20,ey (by omega)]
    rfl
 ·intro h11;refine uO 20 ?_;refine u1 0 (ak rfl aA) ?_;refine aK 0 0 (aq rfl rfl) ?_ ?_
  ·intro h32;refine uO 2 ?_;intro a I;replace I:=I.kp [0,1,6,32] rfl;refine rC 5 I ?_;clear I a;obtain⟨A_p,rfl⟩:∃q,A=some q:=(hV.sat O).ao (by omega);obtain⟨v,hv⟩:∃zz_,vec[r.toNat]?=some zz_:=⟨_,List.getElem?_eq_getElem (by omega)⟩;obtain⟨hv1,hv2⟩:=hv0 v (List.mem_of_getElem? hv);refine u1 0 (ix rfl rfl aA fO) ?_;refine u1 0 (aj rfl dE (eO (hV.sat O) (aV hv))) ?_;refine u1 5 (ad rfl rfl) ?_;refine aS ?_;refine⟨?_,O⟩;unfold bt;obtain rfl:cl=[]:=List.eq_nil_of_length_eq_zero (by omega);rw[show ([]:List aN).getLast?=none from rfl];simp only;rw[show av vec r.toNat=v from by unfold av;rw[hv]]
  ·intro h32;refine uO 2 ?_;intro a I;replace I:=I.kp [0,1,6,32] rfl;refine rC 9 I ?_;clear I a;refine aS ?_;refine⟨?_,O⟩;unfold bt;obtain rfl:cl=[]:=List.eq_nil_of_length_eq_zero (by omega);rw[show ([]:List aN).getLast?=none from rfl];simp only;rw[ey (by omega)]
   rfl
theorem sq (W w:World)(L:List As)(p:Nat)(A:Option Addr)(c:Nat)(bs:List UInt8)(bad:Bool)(q:PL)(O:Sat W w (pR p A c (bs) bad::row 5 1 (.slice A (bs).length c) (bs).length ((bs).map ai)::L))(hp:q.ok W)(hk:AD q.d)(hcl:q.d.ab.length≤1000000000)(hl:bs.length≤1000000000000):Calls Tryz.prog 378 #[.pointer (some ⟨p,0,none⟩),.agg #[.slice q.va q.d.vec.length q.vc,.slice q.ca q.d.ab.length q.cc]] w fun e w'=>e=.returned (.tuple #[])∧∃A' c',Sat W w' (pR p A' c' (bs++cB q.d) bad::row 5 1 (.slice A' (bs++cB q.d).length c') (bs++cB q.d).length ((bs++cB q.d).map ai)::L):=by
 refine bP Tryz.func378 [0,1] ?_;obtain⟨va,vc,ca,cc,d⟩:=q;have hpv:j2 W va vc d.vec:=hp.vec;have hpc:gF W ca cc d.ab:=hp.ab;have hcc:=E5 hpc;have hkl:=hk.len;intro a I;dsimp only at hk hcl hkl I ⊢;have hvl:d.vec.length≤16:=hkl;have hn0:=bd (n:=((d.vec.length:Nat):Int).toNat) (by omega);have hnc:=bd (n:=((d.ab.length:Nat):Int).toNat) (by omega);refine rC 2 I ?_;clear I a;refine uB rfl O ?_;clear O;intro b3 w O;refine uO 3 ?_;intro a I;refine fg (l1:=[_,_,_,_,_,_]) (l2:=[_]) rfl (by kernel_rfl) (by kernel_rfl) ?_;replace O:=O.drew;refine rT 1 I ?_;clear I a;refine eG 0 (aZ rfl) ?_;refine eG 0 (aa rfl dQ) ?_;refine eG 0 (aa rfl cz) ?_;refine eG 0 (ld rfl) ?_;refine eG 0 (ak rfl aA) ?_;intro a I;refine wpStill_nil ?_
 refine vT I rfl tX rfl (cU _ _ _ p _ _ _ bad _ ((O.p 2).p 2) (by omega) (by omega)) ?_;clear I a;clear O;rintro e w ⟨rfl,A15,c15,O⟩;rw[rb (by omega)]at O;simp only[Bool.not_true,Bool.or_false]at O;refine⟨_,rfl,?_⟩;refine uO 5 ?_;refine u1 0 (aa rfl cz) ?_;refine u1 0 (ld rfl) ?_;refine u1 4 (ak rfl aA) ?_;intro a I
 refine wp_loop_ghost (fun (mm:Nat) a w=>∃(i:Nat) (out:List UInt8) (Ao:Option Addr) (co:Nat),Ag a 80 [(0,.pointer (some ⟨p,0,none⟩)),(3,.pointer (some ⟨b3,0,none⟩)),(17,.slice va (d.vec).length vc),(18,.int .i64 ((d.vec.length:Nat):Int)),(19,.int .i64 ((i:Nat):Int))]∧Sat W w (pR p Ao co (out) bad::row 5 1 (.slice Ao (out).length co) (out).length ((out).map ai)::a6 b3 (.cells #[.slice va d.vec.length vc,.slice ca d.ab.length cc] 63)::L)∧(i≤d.vec.length)∧(out=bs++(aE d.vec.length++seqB (ki 1000000000).g none (d.vec.take i)))∧(out.length≤bs.length+9 * (i+1))∧mm=d.vec.length-i) d.vec.length ?_ ?_
 ·replace I:=I.kp [0,3,17,18,19] rfl;exact⟨0,_,_,_,I,O,(by omega),(by rw[Int.toNat_natCast];simp[seqB]),(by simp only[List.length_append];omega),by omega⟩
 intro m a w hI;clear O I;obtain⟨i,out,Ao,co,I,O,hi,ho,hol,rfl⟩:=hI;refine rC 2 I ?_;clear I a;refine aK 0 0 (aq rfl rfl) ?_ ?_
 ·intro h20;refine uO 10 ?_;obtain⟨va_p,rfl⟩:∃q,va=some q:=(hpv.sat O).ao (by omega);obtain⟨x,hx⟩:∃zz_,d.vec[i]?=some zz_:=⟨_,List.getElem?_eq_getElem (by omega)⟩;obtain⟨hx0,hx1⟩:=hk.vec x (List.mem_of_getElem? hx);have hnx:=bd (n:=x.toNat) (by omega);refine u1 0 (ix rfl rfl aA fO) ?_;refine u1 5 (aj rfl dE (eO (hpv.sat O) (aV hx))) ?_;refine u1 0 (aZ rfl) ?_;refine u1 1 (aa rfl dQ) ?_;refine uF rfl (cU _ _ _ p _ _ _ bad x O (by omega) (by omega)) ?_;clear O;rintro e w ⟨rfl,A27,c27,O⟩;rw[rb (by omega)]at O;simp only[Bool.not_true,Bool.or_false]at O;refine uO 3 ?_;intro a I;replace I:=I.kp [0,3,5,17,18,19,20,21,22,23,24,25,26] rfl;refine rC 1 I ?_;clear I a;refine u1 2 (ad rfl rfl) ?_;intro a I;replace I:=I.kp [0,3,17,18,19] rfl
  refine⟨d.vec.length-(i+1),by omega,i+1,out++aE x.toNat,_,_,I,O,by omega,?_,by simp only[List.length_append];omega,rfl⟩;rw[dT hx,ho];simp only[List.append_assoc]
  rfl
 ·intro h20;refine uO 10 ?_;intro a I;refine fg (l1:=[_,_,_,_,_,_]) (l2:=[_]) rfl (by kernel_rfl) (by kernel_rfl) ?_;replace O:=O.drew;refine rT 1 I ?_;clear I a;refine eG 0 (aZ rfl) ?_;refine eG 0 (aa rfl dQ) ?_;refine eG 0 (aa rfl bX) ?_;refine eG 0 (ld rfl) ?_;refine eG 0 (ak rfl dk) ?_;intro a I;refine wpStill_nil ?_;refine vT I rfl tX rfl (cU _ _ _ p _ _ _ bad _ O (by omega) (by omega)) ?_;clear I a;clear O;rintro e w ⟨rfl,A35,c35,O⟩;rw[rb (by omega)]at O;simp only[Bool.not_true,Bool.or_false]at O;refine⟨_,rfl,?_⟩;refine uO 2 ?_;intro a I;replace I:=I.kp [0,3] rfl;refine rC 7 I ?_;clear I a;refine u1 0 (aa rfl bX) ?_;refine u1 0 (ld rfl) ?_;refine u1 4 (ak rfl dk) ?_;intro a I
  refine wp_loop_ghost (fun (mm:Nat) a w=>∃(i:Nat) (out:List UInt8) (Ao:Option Addr) (co:Nat),Ag a 80 [(0,.pointer (some ⟨p,0,none⟩)),(3,.pointer (some ⟨b3,0,none⟩)),(6,.int .i64 ((cF (ahead none d.ab i)))),(37,.slice ca (d.ab).length cc),(38,.int .i64 ((d.ab.length:Nat):Int)),(39,.int .i64 ((i:Nat):Int))]∧Sat W w (pR p Ao co (out) bad::row 5 1 (.slice Ao (out).length co) (out).length ((out).map ai)::a6 b3 (.cells #[.slice va d.vec.length vc,.slice ca d.ab.length cc] 63)::L)∧(i≤d.ab.length)∧(out=bs++(aE d.vec.length++(seqB (ki 1000000000).g none d.vec++(aE d.ab.length++seqB (gX d.vec) none (d.ab.take i)))))∧(out.length≤bs.length+200+27 * i)∧mm=d.ab.length-i) d.ab.length ?_ ?_
  ·replace I:=I.kp [0,3,6,37,38,39] rfl;exact⟨0,_,_,_,I,O,(by omega),(by rw[ho,Int.toNat_natCast,List.take_of_length_le (by omega)];simp[seqB]),(by simp only[List.length_append];omega),by omega⟩
  intro m a w hI;clear O I;obtain⟨i,out,Ao,co,I,O,hi,ho,hol,rfl⟩:=hI;refine rC 2 I ?_;clear I a;refine aK 0 0 (aq rfl rfl) ?_ ?_
  ·intro h40;refine uO 11 ?_;obtain⟨ca_p,rfl⟩:∃q,ca=some q:=(hpc.sat O).ao (by omega);obtain⟨s,hs⟩:∃zz_,d.ab[i]?=some zz_:=⟨_,List.getElem?_eq_getElem (by omega)⟩;obtain⟨hs0,hs1,hs2,hs3,hs4,hs5⟩:=gA hk hs;obtain⟨hl0,hl1⟩:=qs hk (i:=i) s.rep;have hp0:=sJ hk i;have hn1:=bd (n:=(s.rep-cF (ahead none d.ab i)).toNat) (by omega);have hn2:=bd (n:=(s.lo-bt d.vec (ahead none d.ab i) s.rep).toNat) (by omega);have hn3:=bd (n:=(s.hi-s.lo).toNat) (by omega);have hsl:=qZ hk i s hs;refine u1 0 (ix rfl rfl dk cL) ?_;refine u1 0 (ax (cs:=gm s) rfl j6 cL (fun j u e=>bI (hpc.sat O) (dD hs j u e))) ?_;refine uN mn O ?_;clear O;intro b8 w O;refine uO 1 ?_;refine uW (vs:=[_,_,_]) (cs':=[_,_,_]) rfl rfl cL O ?_;clear O;intro w O;refine uO 3 ?_;intro a I
   refine fg (l1:=[_,_,_,_,_,_,_]) (l2:=[_]) rfl (by kernel_rfl) (by kernel_rfl) ?_;replace O:=O.drew;refine rT 1 I ?_;clear I a;refine eG 0 (aZ rfl) ?_;refine eG 0 (aa rfl dQ) ?_;refine eG 0 (aa rfl bT) ?_;refine eG 1 (ld rfl) ?_;refine eG 0 (sb rfl rfl) ?_;intro a I;refine wpStill_nil ?_;refine vT I rfl tX rfl (cU _ _ _ p _ _ _ bad _ ((O.p 2).p 2) (by omega) (by omega)) ?_;clear I a;clear O;rintro e w ⟨rfl,A51,c51,O⟩;rw[rb (by omega)]at O;simp only[Bool.not_true,Bool.or_false]at O;refine⟨_,rfl,?_⟩;refine uO 2 ?_;intro a I;replace I:=I.kp [0,3,6,7,8,37,38,39,40,41,42,43,44,45,46,47,48,49,50] rfl;refine rC 1 I ?_;clear I a;intro a I;refine bj [15] O (by kernel_rfl) ?_;replace O:=O.drew;refine rX [0] I ?_;clear I a
   refine bx 1 [] rfl (fun w=>(aZ rfl)) ?_;refine bx 2 [] rfl (fun w=>(aa rfl dQ)) ?_;refine bx 3 [] rfl (fun w=>(aa rfl dS)) ?_;refine cP 4 [] rfl (by exact⟨[],O⟩) (fun w hT=>have O:=hT.sat;(ld rfl)) ?_;refine bx 5 [] rfl (fun w=>(aa rfl cz)) ?_;refine cP 6 [] rfl (by exact⟨[],O⟩) (fun w hT=>have O:=hT.sat;(ld rfl)) ?_;refine bx 7 [] rfl (fun w=>(aa rfl bT)) ?_;refine cP 8 [] rfl (by exact⟨[],O⟩) (fun w hT=>have O:=hT.sat;(ld rfl)) ?_;refine bx 9 [] rfl (fun w=>(aa rfl bX)) ?_;refine cP 10 [11] rfl (by exact⟨[],O⟩) (fun w hT=>have O:=hT.sat;(ld rfl)) ?_;refine bx 12 [] rfl (fun w=>(aH (oF rfl rfl dk cL (by omega) (by omega)) (show _=Value.slice (i6 (some ca_p) cc 3 0) i cc from rfl))) ?_;intro a I;refine aD 13 (by kernel_rfl) ?_
   refine eF I rfl rfl Im rfl (sL _ va vc d.vec s.rep _ i _ (d.ab.take i) (hpv.sat O) (Dh (hpc.sat O) (by omega)) (by rw[List.length_take];omega) hs0 (by omega) hk.vec (fun z hz=>by obtain⟨k,hz⟩:=List.mem_iff_getElem?.1 (List.mem_of_mem_take hz);have:=gA hk hz;have:=qZ hk k z hz;omega) (by omega) (by omega)) ?_;clear I a;rintro e w ⟨rfl,hT⟩;rw[Dr hi];replace O:Sat _ _ _:=O.ag hT;clear hT;refine⟨_,rfl,?_⟩;intro a I;refine⟨.inr fun _=>(by exact⟨[],O⟩),?_⟩;refine P1 14 [] I rfl (fun w=>(Cl (I.ev rfl) (I.ev rfl) (by omega) (by omega))) ?_;clear I a;intro a I;refine aD 15 (by kernel_rfl) ?_;refine eF I rfl rfl tX rfl (cU _ _ _ p _ _ _ bad _ O (by (simp only[List.length_append];omega)) (by omega)) ?_
   clear I a;clear O;rintro e w ⟨rfl,A67,c67,O⟩;rw[rb (by omega)]at O;simp only[Bool.not_true,Bool.or_false]at O;refine⟨_,rfl,?_⟩;intro a I;refine⟨.inl rfl,?_⟩;refine ah (by kernel_rfl) ?_ _;refine rE 2 I ?_;clear I a;intro a I;refine fg (l1:=[_,_,_,_,_,_,_,_]) (l2:=[_]) rfl (by kernel_rfl) (by kernel_rfl) ?_;replace O:=O.drew;refine rT 1 I ?_;clear I a;refine eG 0 (aZ rfl) ?_;refine eG 0 (aa rfl dQ) ?_;refine eG 0 (aa rfl dW) ?_;refine eG 0 (ld rfl) ?_;refine eG 0 (aa rfl dS) ?_;refine eG 0 (ld rfl) ?_;refine eG 0 (sb rfl rfl) ?_;intro a I;refine wpStill_nil ?_;refine vT I rfl tX rfl (cU _ _ _ p _ _ _ bad _ O (by (simp only[List.length_append];omega)) (by omega)) ?_;clear I a;clear O;rintro e w ⟨rfl,A76,c76,O⟩;rw[rb (by omega)]at O;simp only[Bool.not_true,Bool.or_false]at O;refine⟨_,rfl,?_⟩
   refine uO 3 ?_;refine u1 0 (aa rfl bT) ?_;refine u1 5 (ld rfl) ?_;refine u1 2 (ad rfl rfl) ?_;intro a I;replace I:=I.kp [0,3,6,37,38,39] rfl;rw[show s.rep=cF (ahead none d.ab (i+1)) from by rw[cG hs];rfl]at I;refine⟨d.ab.length-(i+1),by omega,i+1,_,_,_,I,(O.p 2).drop,by omega,?_,by simp only[List.length_append];omega,rfl⟩;rw[dT hs,ho];simp only[List.append_assoc]
   rfl
  ·intro h40;refine uO 8 ?_;intro a I;refine fL (e:=.ret) ?_;refine ji I rfl  ?_;have hie:i=d.ab.length:=by omega
   rw[hie,List.take_length]at ho;rw[show bs++cB d=out from by rw[ho];rfl];exact⟨rfl,Ao,co,(O.p 2).drop⟩
theorem JA {bs:List UInt8}{i:Nat}{mo:Int}(h:(gH bs i mo).2.2=0):∃v at':Nat,gH bs i mo=(v,at',0)∧bM mo (bs.drop i)=some (v,bs.drop at')∧at'≤bs.length∧(v:Int)≤mo∧v≤9223372036854775807:=by
 have h1:=xK h
 have h2:(fm bs i).2.2=0:=by
  by_cases h2:(fm bs i).2.2=0
  ·
   exact h2
  ·
   rw[ti h2]at h;exact absurd h h2
 have h3:((fm bs i).1:Int)≤mo:=by
  by_cases h3:((fm bs i).1:Int)≤mo
  ·
   exact h3
  ·
   rw[uI h2 (by omega)]at h;cases h
 have h4:=rI h2;rw[uj h2 h3]at h1 ⊢;exact⟨_,_,rfl,h1,h4.2.1,h3,h4.2.2.1⟩
theorem Kn {bs:List UInt8}{i:Nat}{ea:Int}(he:1≤ea)(h:(CO bs i ea).2.2=0):∃v at':Nat,CO bs i ea=(v,at',0)∧bM 9223372036854775807 (bs.drop i)=some (v,bs.drop at')∧at'≤bs.length∧v * ea.toNat≤bs.length-at':=by
 by_cases h2:(fm bs i).2.2=0
 ·
  by_cases h3:((bs.length:Int)-((fm bs i).2.1:Int)) / max ea 1<((fm bs i).1:Int)
  ·
   rw[wK h2 h3]at h;simp at h
  ·
   obtain⟨hm1,hm2⟩:=xz (bs:=bs) (i:=i);have h4:=rI h2;obtain⟨v,a,hu,hn,ha,_,_⟩:=JA (bs:=bs) (i:=i) (mo:=9223372036854775807) (by rw[hm1];exact h2);have e1:=(hm2 h2).1;have e2:=(hm2 h2).2;rw[hu]at e1 e2;dsimp only at e1 e2;refine⟨(fm bs i).1,(fm bs i).2.1,Be h2 h3,by rw[←e1,←e2];exact hn,h4.2.1,?_⟩;rw[show max ea 1=ea from by omega]at h3;have h5:((fm bs i).1:Int)≤((bs.length:Int)-((fm bs i).2.1:Int)) / ea:=by omega
   have h6:=(Int.le_ediv_iff_mul_le (by omega:0<ea)).1 h5;have h7:(((fm bs i).1 * ea.toNat:Nat):Int)=((fm bs i).1:Int) * ea:=by rw[Int.natCast_mul,Int.toNat_of_nonneg (by omega)]
   have:=h4.2.1;omega
 ·
  rw[Cj h2]at h;exact absurd h h2
theorem G1 {bs:List UInt8}{i:Nat}{ea:Int}(he:1≤ea)(h:(CO bs i ea).2.2≠0):bM 9223372036854775807 (bs.drop i)=none∨∃(v:Nat) (r:List UInt8),bM 9223372036854775807 (bs.drop i)=some (v,r)∧r.length<v * ea.toNat:=by
 obtain⟨hm1,hm2⟩:=xz (bs:=bs) (i:=i)
 by_cases h2:(fm bs i).2.2=0
 ·
  by_cases h3:((bs.length:Int)-((fm bs i).2.1:Int)) / max ea 1<((fm bs i).1:Int)
  ·
   right
   have h4:=rI h2;obtain⟨v,a,hu,hn,ha,_,_⟩:=JA (bs:=bs) (i:=i) (mo:=9223372036854775807) (by rw[hm1];exact h2);have e1:=(hm2 h2).1;have e2:=(hm2 h2).2;rw[hu]at e1 e2;dsimp only at e1 e2;refine⟨v,_,hn,?_⟩;rw[show max ea 1=ea from by omega]at h3;rw[←e1,←e2]at h3;have h5:¬((v:Int)≤((bs.length:Int)-(a:Int)) / ea):=by omega
   have h6:¬((v:Int) * ea≤(bs.length:Int)-(a:Int)):=fun hc=>h5 ((Int.le_ediv_iff_mul_le (by omega:0<ea)).2 hc)
   have h7:((v * ea.toNat:Nat):Int)=(v:Int) * ea:=by rw[Int.natCast_mul,Int.toNat_of_nonneg (by omega)]
   rw[List.length_drop];omega
  ·
   rw[Be h2 h3]at h;exact absurd rfl h
 ·
  left;exact vb (by rw[hm1];exact h2)
theorem Kc {bs:List UInt8}{i:Nat}{mo:Int}(h:(nB bs i mo).2.2=0):∃(s:List UInt8) (at':Nat),nB bs i mo=(s,at',0)∧dh mo (bs.drop i)=some (s,bs.drop at')∧at'≤bs.length:=by
 have h1:=DR h;refine⟨(nB bs i mo).1,(nB bs i mo).2.1,by rw[←h],h1,?_⟩
 by_cases h2:(gH bs i mo).2.2=0
 ·
  by_cases h3:(gH bs i mo).1≤bs.length-(gH bs i mo).2.1
  ·
   rw[tF h2 h3];obtain⟨v,a,hu,_,ha,_,_⟩:=JA h2;rw[hu]at h3 ⊢;dsimp only at h3 ⊢;omega
  ·
   rw[oE h2 (by omega)]at h;simp at h
 ·
  rw[th h2]at h;exact absurd h h2
def n0 (p:Option aR):Int:=match p with | some q=>q.num+1 | none=>1
theorem mb {p:Option aR}{r:Int}(h:r≠bC p):dM p r=1:=by
 unfold dM;unfold bC at h;cases p with
 | none=>rfl
 | some q=>simp only at h ⊢;rw[if_neg (fun e=>h e.symm)]
theorem k8 {p:Option aR}{r:Int}(h:r=bC p):dM p r=n0 p:=by
 unfold dM n0;unfold bC at h;cases p with
 | none=>rfl
 | some q=>simp only at h ⊢;rw[if_pos h.symm]
theorem xm {es:List aR}(h:iU ot none es)(i:Nat):1≤n0 (ahead none es i)∧n0 (ahead none es i)≤1000000001:=by
 unfold n0;cases e:ahead none es i with
 | none=>simp
 | some q =>
   unfold ahead at e
   split at e
   ·
    cases e
   ·
    have:=xk h e;unfold ot at this;simp only;omega
theorem wB {es:List aR}(h:iU ot none es)(i:Nat)(r:Int):1≤dM (ahead none es i) r∧dM (ahead none es i) r≤1000000001:=by
 by_cases e:r=bC (ahead none es i)
 ·
  rw[k8 e];exact xm h i
 ·
  rw[mb e];omega
theorem qW {es:List aR}(h:iU ot none es)(i:Nat):0≤bC (ahead none es i):=by
 unfold bC;cases e:ahead none es i with
 | none=>simp
 | some q =>
   unfold ahead at e
   split at e
   ·
    cases e
   ·
    exact (xk h e).1
theorem xp {α:Type}{g:Option α→α→List UInt8}:∀(xs:List α) (p:Option α) (i:Nat),(seqB g p (xs.take i)).length≤(seqB g p xs).length
 | [],p,i=>by simp
 | x::xs,p,0=>by simp[seqB]
 | x :: xs, p, i + 1 => by
   rw[List.take_succ_cons,seqB,seqB,List.length_append,List.length_append];have:=xp (g:=g) xs (some x) i;omega
theorem mv {r:bS}(h:fb r=true):r.cy.data.toList.length≤24∧yN r.bB:=by
 unfold fb at h;simp only[Bool.and_eq_true,Bool.or_eq_true,decide_eq_true_eq]at h;refine⟨?_,fw.1 h.2.1⟩;rcases h.1 with h1 | h1
 ·
  rw[h1];simp
 ·
  unfold mN BW pF at h1
  split at h1
  ·
   simp at h1
  ·
   split at h1
   ·
    simp at h1
   ·
    omega
theorem zP (W w:World)(L:List As)(p:Nat)(A:Option Addr)(c:Nat)(bs:List UInt8)(bad:Bool)(B:Option Addr)(d:Nat)(xs:List aR)(O:Sat W w (pR p A c (bs) bad::row 5 1 (.slice A (bs).length c) (bs).length ((bs).map ai)::L))(hX:fK W B d xs)(hk:iU ot none xs)(hxl:xs.length≤1000000000)(hl:bs.length≤1000000000000):Calls Tryz.prog 377 #[.pointer (some ⟨p,0,none⟩),.slice B (xs).length d] w fun e w'=>e=.returned (.tuple #[])∧∃A' c',Sat W w' (pR p A' c' (bs++cI xs) bad::row 5 1 (.slice A' (bs++cI xs).length c') (bs++cI xs).length ((bs++cI xs).map ai)::L):=by
 refine bP Tryz.func377 [0,1] ?_;have hn0:=bd (n:=((xs.length:Nat):Int).toNat) (by omega);refine uC 3 ?_;refine u1 0 (aZ rfl) ?_;refine u1 1 (aa rfl dQ) ?_;refine u1 0 (ak rfl bA) ?_;refine uF rfl (cU _ _ _ p _ _ _ bad _ O (by omega) (by omega)) ?_;clear O;rintro e w ⟨rfl,A13,c13,O⟩;rw[rb (by omega)]at O;simp only[Bool.not_true,Bool.or_false]at O;refine uO 11 ?_;refine u1 4 (ak rfl bA) ?_;intro a I
 refine wp_loop_ghost (fun (mm:Nat) a w=>∃(i:Nat) (out:List UInt8) (Ao:Option Addr) (co:Nat),Ag a 64 [(0,.pointer (some ⟨p,0,none⟩)),(4,.int .i64 ((bC (ahead none xs i)))),(5,.int .i64 ((n0 (ahead none xs i)))),(14,.slice B (xs).length d),(15,.int .i64 ((xs.length:Nat):Int)),(16,.int .i64 ((i:Nat):Int))]∧Sat W w (pR p Ao co (out) bad::row 5 1 (.slice Ao (out).length co) (out).length ((out).map ai)::L)∧(i≤xs.length)∧(out=bs++(aE xs.length++seqB mw none (xs.take i)))∧(out.length≤bs.length+9+60 * i)∧mm=xs.length-i) xs.length ?_ ?_
 ·replace I:=I.kp [0,4,5,14,15,16] rfl;exact⟨0,_,_,_,I,O,(by omega),(by rw[Int.toNat_natCast];simp[seqB]),(by simp only[List.length_append];omega),by omega⟩
 intro m a w hI;clear O I;obtain⟨i,out,Ao,co,I,O,hi,ho,hol,rfl⟩:=hI;refine rC 2 I ?_;clear I a;refine aK 0 0 (aq rfl rfl) ?_ ?_
 ·intro h17;refine uO 10 ?_;obtain⟨B_p,rfl⟩:∃q,B=some q:=(hX.sat O).ao (by omega);obtain⟨x,hx⟩:∃zz_,xs[i]?=some zz_:=⟨_,List.getElem?_eq_getElem (by omega)⟩;have hw:=xk hk hx;intro a I;unfold ot at hw;obtain⟨hw0,hw1,hw2,hw3,hw4,hw5,hw6,hw7,hw8⟩:=hw;have hp0:=qW hk i;obtain⟨hq0,hq1⟩:=wB hk i x.rep;obtain⟨hq2,hq3⟩:=xm hk i;have hn1:=bd (n:=(x.rep-bC (ahead none xs i)).toNat) (by omega);have hn3:=bd (n:=x.cy.data.toList.length) (by omega);have hn4:=bd (n:=(x.qg-1).toNat) (by omega);refine o1 0 I (fV (I.ev rfl) (I.ev rfl) bA dp (by omega) (by omega)) ?_;clear I a;refine u1 0 (ax (cs:=mr x) rfl pt dp (fun j u e=>bI (hX.sat O) (cS hx j u e))) ?_;refine uN BL O ?_;clear O;intro b7 w O;refine uW (vs:=[_,_,_,_]) (cs':=[_,_,_,_]) rfl rfl dp O ?_;clear O;intro w O
  refine uO 5 ?_;refine u1 0 (aa rfl cj) ?_;refine u1 0 (aa rfl bu) ?_;refine u1 1 (ld rfl) ?_;refine aK 0 0 (aG rfl rfl) ?_ ?_
  ·intro h24;have hnx0:dM (ahead none xs i) x.rep=1:=mb h24;have hn2:=bd (n:=(x.num-1).toNat) (by omega);refine uO 8 ?_;intro a I;refine fg (l1:=[_,_,_,_,_,_,_,_]) (l2:=[_]) rfl (by kernel_rfl) (by kernel_rfl) ?_;replace O:=O.drew;refine rT 1 I ?_;clear I a;refine eG 0 (aZ rfl) ?_;refine eG 0 (aa rfl dQ) ?_;refine eG 0 (aa rfl cj) ?_;refine eG 0 (aa rfl bu) ?_;refine eG 1 (ld rfl) ?_;refine eG 0 (sb rfl rfl) ?_;intro a I;refine wpStill_nil ?_;refine vT I rfl tX rfl (cU _ _ _ p _ _ _ bad _ ((O.p 2).p 2) (by omega) (by omega)) ?_;clear I a;clear O;rintro e w ⟨rfl,A33,c33,O⟩;rw[rb (by omega)]at O;simp only[Bool.not_true,Bool.or_false]at O;refine⟨_,rfl,?_⟩;refine uO 2 ?_;intro a I;replace I:=I.kp [0,4,5,7,14,15,16,17,18,19,20,21,22,23,24,25,26,27,28,29,30,31,32] rfl;refine rC 1 I ?_;clear I a
   intro a I;refine fg (l1:=[_,_,_,_,_,_,_,_]) (l2:=[_]) rfl (by kernel_rfl) (by kernel_rfl) ?_;replace O:=O.drew;refine rT 1 I ?_;clear I a;refine eG 0 (aZ rfl) ?_;refine eG 0 (aa rfl dQ) ?_;refine eG 0 (aa rfl cj) ?_;refine eG 0 (aa rfl bN) ?_;refine eG 1 (ld rfl) ?_;refine eG 0 (sb rfl rfl) ?_;intro a I;refine wpStill_nil ?_;refine vT I rfl tX rfl (cU _ _ _ p _ _ _ bad _ O (by (simp only[List.length_append];omega)) (by omega)) ?_;clear I a;clear O;rintro e w ⟨rfl,A42,c42,O⟩;rw[rb (by omega)]at O;simp only[Bool.not_true,Bool.or_false]at O;refine⟨_,rfl,?_⟩;refine uO 3 ?_;intro a I;refine fg (l1:=[_,_,_,_,_]) (l2:=[_]) rfl (by kernel_rfl) (by kernel_rfl) ?_;replace O:=O.drew;refine rT 1 I ?_;clear I a
   refine eG 0 (aZ rfl) ?_;refine eG 0 (aa rfl dQ) ?_;refine eG 0 (aa rfl jt) ?_;refine eG 0 (ld rfl) ?_;intro a I;refine wpStill_nil ?_;refine vT I rfl ED rfl (nq _ _ _ p _ _ _ bad x.cy O (by (simp only[List.length_append];omega)) (by rw[oa];(simp only[List.length_append];omega))) ?_;clear I a;clear O;rintro e w ⟨rfl,A48,c48,O⟩;rw[Gx (.inl rfl)]at O;dsimp only at O;refine⟨_,rfl,?_⟩;refine uO 3 ?_;intro a I;refine fg (l1:=[_,_,_,_,_,_]) (l2:=[_]) rfl (by kernel_rfl) (by kernel_rfl) ?_;replace O:=O.drew;refine rT 1 I ?_;clear I a;refine eG 0 (aZ rfl) ?_;refine eG 0 (aa rfl dQ) ?_;refine eG 0 (aa rfl hU) ?_;refine eG 0 (ld rfl) ?_;refine eG 0 (sb rfl rfl) ?_;intro a I;refine wpStill_nil ?_
   refine vT I rfl tX rfl (cU _ _ _ p _ _ _ bad _ O (by (simp only[List.length_append];omega)) (by omega)) ?_;clear I a;clear O;rintro e w ⟨rfl,A55,c55,O⟩;rw[rb (by omega)]at O;simp only[Bool.not_true,Bool.or_false]at O;refine⟨_,rfl,?_⟩;refine uO 2 ?_;intro a I;replace I:=I.kp [0,4,5,7,14,15,16,17,18,19,20,21,22,23,24,25,26,27,28,29,30,31,32,34,35,36,37,38,39,40,41,43,44,45,46,47,49,50,51,52,53,54] rfl;refine cD (fun w'=>Sat _ w' _) (by kernel_rfl) (by kernel_rfl) O.drew ?_;refine Q1 0 I (fun w O=>(aa (I.ev rfl) cj)) ?_;clear I a;refine bc 0 (fun w O=>(aa rfl bu)) ?_;refine bc 0 (fun w O=>(ld rfl)) ?_;refine bc 0 (fun w O=>(aa rfl cj)) ?_;refine bc 0 (fun w O=>(aa rfl bN)) ?_;refine bc 0 (fun w O=>(ld rfl)) ?_;refine bc 2 (fun w O=>(ad rfl rfl)) ?_;intro a I;refine wpQuiet_nil ?_
   clear O;intro w O;refine rE 3 I ?_;clear I a;refine u1 2 (ad rfl rfl) ?_;intro a I;replace I:=I.kp [0,4,5,14,15,16] rfl;have hnx:dM (ahead none xs i) x.rep=1:=mb h24;rw[show x.rep=bC (ahead none xs (i+1)) from by rw[cG hx];rfl,show x.num+1=n0 (ahead none xs (i+1)) from by rw[cG hx];rfl]at I;refine⟨xs.length-(i+1),by omega,i+1,_,_,_,I,(O.p 2).drop,by omega,?_,by simp only[List.length_append];omega,rfl⟩;rw[dT hx,ho];unfold mw;rw[hnx];simp only[List.append_assoc]
  ·intro h24;have hnx0:dM (ahead none xs i) x.rep=n0 (ahead none xs i):=k8 (by omega);have hn2:=bd (n:=(x.num-n0 (ahead none xs i)).toNat) (by omega);refine uO 6 ?_;intro a I;refine fg (l1:=[_,_,_,_,_,_,_,_]) (l2:=[_]) rfl (by kernel_rfl) (by kernel_rfl) ?_;replace O:=O.drew;refine rT 1 I ?_;clear I a;refine eG 0 (aZ rfl) ?_;refine eG 0 (aa rfl dQ) ?_;refine eG 0 (aa rfl cj) ?_;refine eG 0 (aa rfl bu) ?_;refine eG 1 (ld rfl) ?_;refine eG 0 (sb rfl rfl) ?_;intro a I;refine wpStill_nil ?_;refine vT I rfl tX rfl (cU _ _ _ p _ _ _ bad _ ((O.p 2).p 2) (by omega) (by omega)) ?_;clear I a;clear O;rintro e w ⟨rfl,A33,c33,O⟩;rw[rb (by omega)]at O;simp only[Bool.not_true,Bool.or_false]at O;refine⟨_,rfl,?_⟩;refine uO 2 ?_;intro a I
   replace I:=I.kp [0,4,5,7,14,15,16,17,18,19,20,21,22,23,24,25,26,27,28,29,30,31,32] rfl;refine rC 1 I ?_;clear I a;intro a I;refine fg (l1:=[_,_,_,_,_,_,_,_]) (l2:=[_]) rfl (by kernel_rfl) (by kernel_rfl) ?_;replace O:=O.drew;refine rT 1 I ?_;clear I a;refine eG 0 (aZ rfl) ?_;refine eG 0 (aa rfl dQ) ?_;refine eG 0 (aa rfl cj) ?_;refine eG 0 (aa rfl bN) ?_;refine eG 1 (ld rfl) ?_;refine eG 0 (sb rfl rfl) ?_;intro a I;refine wpStill_nil ?_;refine vT I rfl tX rfl (cU _ _ _ p _ _ _ bad _ O (by (simp only[List.length_append];omega)) (by omega)) ?_;clear I a;clear O;rintro e w ⟨rfl,A42,c42,O⟩;rw[rb (by omega)]at O;simp only[Bool.not_true,Bool.or_false]at O;refine⟨_,rfl,?_⟩;refine uO 3 ?_;intro a I;refine fg (l1:=[_,_,_,_,_]) (l2:=[_]) rfl (by kernel_rfl) (by kernel_rfl) ?_;replace O:=O.drew
   refine rT 1 I ?_;clear I a;refine eG 0 (aZ rfl) ?_;refine eG 0 (aa rfl dQ) ?_;refine eG 0 (aa rfl jt) ?_;refine eG 0 (ld rfl) ?_;intro a I;refine wpStill_nil ?_;refine vT I rfl ED rfl (nq _ _ _ p _ _ _ bad x.cy O (by (simp only[List.length_append];omega)) (by rw[oa];(simp only[List.length_append];omega))) ?_;clear I a;clear O;rintro e w ⟨rfl,A48,c48,O⟩;rw[Gx (.inl rfl)]at O;dsimp only at O;refine⟨_,rfl,?_⟩;refine uO 3 ?_;intro a I;refine fg (l1:=[_,_,_,_,_,_]) (l2:=[_]) rfl (by kernel_rfl) (by kernel_rfl) ?_;replace O:=O.drew;refine rT 1 I ?_;clear I a;refine eG 0 (aZ rfl) ?_;refine eG 0 (aa rfl dQ) ?_;refine eG 0 (aa rfl hU) ?_;refine eG 0 (ld rfl) ?_;refine eG 0 (sb rfl rfl) ?_;intro a I;refine wpStill_nil ?_
   refine vT I rfl tX rfl (cU _ _ _ p _ _ _ bad _ O (by (simp only[List.length_append];omega)) (by omega)) ?_;clear I a;clear O;rintro e w ⟨rfl,A55,c55,O⟩;rw[rb (by omega)]at O;simp only[Bool.not_true,Bool.or_false]at O;refine⟨_,rfl,?_⟩;refine uO 2 ?_;intro a I;replace I:=I.kp [0,4,5,7,14,15,16,17,18,19,20,21,22,23,24,25,26,27,28,29,30,31,32,34,35,36,37,38,39,40,41,43,44,45,46,47,49,50,51,52,53,54] rfl;refine cD (fun w'=>Sat _ w' _) (by kernel_rfl) (by kernel_rfl) O.drew ?_;refine Q1 0 I (fun w O=>(aa (I.ev rfl) cj)) ?_;clear I a;refine bc 0 (fun w O=>(aa rfl bu)) ?_;refine bc 0 (fun w O=>(ld rfl)) ?_;refine bc 0 (fun w O=>(aa rfl cj)) ?_;refine bc 0 (fun w O=>(aa rfl bN)) ?_;refine bc 0 (fun w O=>(ld rfl)) ?_;refine bc 2 (fun w O=>(ad rfl rfl)) ?_;intro a I;refine wpQuiet_nil ?_
   clear O;intro w O;refine rE 3 I ?_;clear I a;refine u1 2 (ad rfl rfl) ?_;intro a I;replace I:=I.kp [0,4,5,14,15,16] rfl;have hnx:dM (ahead none xs i) x.rep=n0 (ahead none xs i):=k8 (by omega);rw[show x.rep=bC (ahead none xs (i+1)) from by rw[cG hx];rfl,show x.num+1=n0 (ahead none xs (i+1)) from by rw[cG hx];rfl]at I;refine⟨xs.length-(i+1),by omega,i+1,_,_,_,I,(O.p 2).drop,by omega,?_,by simp only[List.length_append];omega,rfl⟩;rw[dT hx,ho];unfold mw;rw[hnx];simp only[List.append_assoc]
 ·intro h17;refine uO 8 ?_;intro a I;refine fL (e:=.ret) ?_;refine ji I rfl  ?_;have hie:i=xs.length:=by omega
  rw[hie,List.take_length]at ho;rw[show bs++cI xs=out from by rw[ho];rfl];exact⟨rfl,Ao,co,O⟩
theorem y1 (W w:World)(L:List As)(p:Nat)(A:Option Addr)(c:Nat)(bs:List UInt8)(bad:Bool)(B:Option Addr)(d:Nat)(rs:List RL)(O:Sat W w (pR p A c (bs) bad::row 5 1 (.slice A (bs).length c) (bs).length ((bs).map ai)::L))(hR:fG W B d rs)(hE:∀r∈rs,r.p.ok W)(hC:∀r∈rs,r.p.d.ab.length≤1000000000)(hk:∀r∈rs.map RL.d,fb r=true)(hrl:rs.length≤1000000000000)(hl:bs.length+(bV (rs.map RL.d)).length≤1000000000000):Calls Tryz.prog 379 #[.pointer (some ⟨p,0,none⟩),.slice B (rs).length d] w fun e w'=>e=.returned (.tuple #[])∧∃A' c',Sat W w' (pR p A' c' (bs++bV (rs.map RL.d)) bad::row 5 1 (.slice A' (bs++bV (rs.map RL.d)).length c') (bs++bV (rs.map RL.d)).length ((bs++bV (rs.map RL.d)).map ai)::L):=by
 refine bP Tryz.func379 [0,1] ?_;refine uC 3 ?_;refine u1 0 (aZ rfl) ?_;refine u1 1 (aa rfl dQ) ?_;refine u1 0 (ak rfl cY) ?_;refine uF rfl (cU _ _ _ p _ _ _ bad _ O (by omega) (by omega)) ?_;clear O;rintro e w ⟨rfl,A11,c11,O⟩;rw[rb (by omega)]at O;simp only[Bool.not_true,Bool.or_false]at O;refine uO 5 ?_;refine u1 4 (ak rfl cY) ?_;intro a I;refine wp_loop_ghost (fun (mm:Nat) a w=>∃(i:Nat) (out:List UInt8) (Ao:Option Addr) (co:Nat),Ag a 29 [(0,.pointer (some ⟨p,0,none⟩)),(12,.slice B (rs).length d),(13,.int .i64 ((rs.length:Nat):Int)),(14,.int .i64 ((i:Nat):Int))]∧Sat W w (pR p Ao co (out) bad::row 5 1 (.slice Ao (out).length co) (out).length ((out).map ai)::L)∧(i≤rs.length)∧(out=bs++(aE rs.length++seqB ie none ((rs.map RL.d).take i)))∧mm=rs.length-i) rs.length ?_ ?_
 ·replace I:=I.kp [0,12,13,14] rfl;exact⟨0,_,_,_,I,O,(by omega),(by rw[Int.toNat_natCast];simp[seqB]),by omega⟩
 intro m a w hI;clear O I;obtain⟨i,out,Ao,co,I,O,hi,ho,rfl⟩:=hI;refine rC 2 I ?_;clear I a;refine aK 0 0 (aq rfl rfl) ?_ ?_
 ·intro h15;refine uO 10 ?_;obtain⟨B_p,rfl⟩:∃q,B=some q:=(hR.sat O).ao (by omega);obtain⟨x,hx⟩:∃zz_,rs[i]?=some zz_:=⟨_,List.getElem?_eq_getElem (by omega)⟩;have hw:=mv (hk x.d (List.mem_of_getElem? (bO hx)));obtain⟨hw0,hw1⟩:=hw;have hw2:x.cy.data.toList.length≤24:=hw0;have hxo:=hE x (List.mem_of_getElem? hx);have hxc:=hC x (List.mem_of_getElem? hx);have hsm:=xp (g:=ie) (rs.map RL.d) none (i+1);intro a I;rw[dT (bO hx),List.length_append]at hsm;have hrg:(ie (ahead none (rs.map RL.d) i) x.d).length=(aE x.cy.data.toList.length).length+(x.cy.data.toList.length+(cB x.p.d).length):=by unfold ie;simp only[List.length_append];rfl
  have hol:out.length=bs.length+((aE rs.length).length+(seqB ie none ((rs.map RL.d).take i)).length):=by rw[ho];simp only[List.length_append]
  have hlr:(bV (rs.map RL.d)).length=(aE rs.length).length+(seqB ie none (rs.map RL.d)).length:=by unfold bV;rw[List.length_append,List.length_map]
  refine o1 0 I (fV (I.ev rfl) (I.ev rfl) cY ct (by omega) (by omega)) ?_;clear I a;refine u1 0 (ax (cs:=iT x) rfl kS ct (fun j u e=>bI (hR.sat O) (cR hx j u e))) ?_;refine uN mE O ?_;clear O;intro b5 w O;refine uW (vs:=[_,_,_]) (cs':=[_,_,_]) rfl rfl ct O ?_;clear O;intro w O;refine uO 3 ?_;intro a I;refine fg (l1:=[_,_,_,_,_]) (l2:=[_]) rfl (by kernel_rfl) (by kernel_rfl) ?_;replace O:=O.drew;refine rT 1 I ?_;clear I a;refine eG 0 (aZ rfl) ?_;refine eG 0 (aa rfl dQ) ?_;refine eG 0 (aa rfl bW) ?_;refine eG 0 (ld rfl) ?_;intro a I;refine wpStill_nil ?_;refine vT I rfl ED rfl (nq _ _ _ p _ _ _ bad x.cy ((O.p 2).p 2) (by omega) (by rw[oa];omega)) ?_;clear I a;clear O;rintro e w ⟨rfl,A23,c23,O⟩;rw[Gx (.inl rfl)]at O;dsimp only at O;refine⟨_,rfl,?_⟩;refine uO 2 ?_
  intro a I;replace I:=I.kp [0,5,12,13,14,15,16,17,18,19,20,21,22] rfl;refine rC 2 I ?_;clear I a;refine u1 0 (aa rfl bK) ?_;refine u1 0 (lS (cs:=[_,_]) rfl) ?_;refine uF rfl (sq _ _ _ p _ _ _ bad x.p O hxo hw1.toAD hxc (by simp only[List.length_append];omega)) ?_;clear O;rintro e w ⟨rfl,A27,c27,O⟩;refine uO 4 ?_;refine u1 2 (ad rfl rfl) ?_;intro a I;replace I:=I.kp [0,12,13,14] rfl;refine⟨rs.length-(i+1),by omega,i+1,_,_,_,I,(O.p 2).drop,by omega,?_,rfl⟩;rw[dT (bO hx),ho];unfold ie;simp only[List.append_assoc]
  rfl
 ·intro h15;refine uO 8 ?_;intro a I;refine fL (e:=.ret) ?_;refine ji I rfl  ?_;have hie:i=rs.length:=by omega
  rw[hie,List.take_of_length_le (by simp)]at ho;rw[show bs++bV (rs.map RL.d)=out from by rw[ho];unfold bV;rw[List.length_map]];exact⟨rfl,Ao,co,O⟩
theorem uT {α:Type}{g:Option α→α→List UInt8}{F:Option α→α→Prop}{k:Nat}(h:∀p x,F p x→(g p x).length≤k):∀(l:List α) (p:Option α),iU F p l→(seqB g p l).length≤l.length * k
 | [],_,_=>by simp[seqB]
 | x :: l, p, hc => by
   have h1:=h p x hc.1;have h2:=uT h l (some x) hc.2;rw[seqB,List.length_append,List.length_cons,Nat.add_mul];omega
theorem nine {n:Nat}(h:n≤9223372036854775807):(aE n).length≤9:=bd h
theorem mB {p:aJ}(h:AD p)(hc:p.ab.length≤1000000000):(cB p).length≤200+27 * p.ab.length:=by
 unfold cB;have hv:=h.len;have h1:=nine (n:=p.vec.length) (by omega);have h2:=nine (n:=p.ab.length) (by omega)
 have h3:(seqB (ki 1000000000).g none p.vec).length≤p.vec.length * 9:=by
  refine uT (F:=(ki 1000000000).F) (fun _ x hx=>?_) _ _ (mI.2 fun v hv2=>?_)
  ·
   exact nine (by have:=hx.1;have:=hx.2.2;omega)
  ·
   have:=h.vec v hv2;omega
 have h4:(seqB (gX p.vec) none p.ab).length≤p.ab.length * 27:=by
  have hcl:iU (fun a b=>gl p.vec a b=true) none p.ab:=oS.1 h.ab
  have hb:∀(l:List aN) (q:Option aN),iU (fun a b=>gl p.vec a b=true) q l→(∀y,q=some y→0≤y.rep∧0≤y.hi)→(seqB (gX p.vec) q l).length≤l.length * 27:=by
   intro l
   induction l with
   | nil=>intro q _ _;simp[seqB]
   | cons x l ih =>
     intro q hq hy;obtain⟨a,b,c,d,e,f⟩:=xP hq.1;have hp:0≤cF q:=by unfold cF;cases q with | none=>simp | some y=>exact (hy y rfl).1
     have hl:0≤bt p.vec q x.rep:=by
      unfold bt;have:=dt h.vec x.rep.toNat;cases q with
      | none=>simp only;omega
      | some y=>have:=(hy y rfl).2;simp only;split<;>omega
     have h5:=ih (some x) hq.2 (fun y hy2=>by cases hy2;exact⟨a,by omega⟩);have n1:=nine (n:=(x.rep-cF q).toNat) (by omega);have n2:=nine (n:=(x.lo-bt p.vec q x.rep).toNat) (by omega);have n3:=nine (n:=(x.hi-x.lo).toNat) (by omega);have hg:(gX p.vec q x).length≤27:=by unfold gX;simp only[List.length_append];omega
     rw[seqB,List.length_append,List.length_cons,Nat.add_mul];omega
  exact hb _ none hcl (fun y hy=>by cases hy)
 simp only[List.length_append];omega
theorem kR {xs:List aR}(h:iU ot none xs)(hl:xs.length≤1000000000):(cI xs).length≤9+60 * xs.length:=by
 unfold cI;have h1:=nine (n:=xs.length) (by omega)
 have h2:(seqB mw none xs).length≤xs.length * 60:=by
  have hb:∀(l:List aR) (q:Option aR),iU ot q l→(∀y,q=some y→0≤y.rep∧0≤y.num)→(seqB mw q l).length≤l.length * 60:=by
   intro l
   induction l with
   | nil=>intro q _ _;simp[seqB]
   | cons x l ih =>
     intro q hq hy;obtain⟨a,b,c,d,e,f,g,i,j⟩:=hq.1;have hp:0≤bC q:=by unfold bC;cases q with | none=>simp | some y=>exact (hy y rfl).1
     have hn:0≤dM q x.rep:=by
      unfold dM;cases q with
      | none=>simp
      | some y=>have:=(hy y rfl).2;simp only;split<;>omega
     have h5:=ih (some x) hq.2 (fun y hy2=>by cases hy2;exact⟨a,by omega⟩);have n1:=nine (n:=(x.rep-bC q).toNat) (by omega);have n2:=nine (n:=(x.num-dM q x.rep).toNat) (by omega);have n3:=nine (n:=x.cy.data.toList.length) (by omega);have n4:=nine (n:=(x.qg-1).toNat) (by omega);have hg:(mw q x).length≤60:=by unfold mw;simp only[List.length_append];omega
     rw[seqB,List.length_append,List.length_cons,Nat.add_mul];omega
  exact hb _ none h (fun y hy=>by cases hy)
 rw[List.length_append];omega
theorem kT {rs:List bS}(h:∀r∈rs,fb r=true)(hs:cO (rs.map bS.bB)≤1000000000):(bV rs).length≤9+300 * cO (rs.map bS.bB):=by
 have hl:=qJ (rs.map bS.bB);rw[List.length_map]at hl;unfold bV;have h1:=nine (n:=rs.length) (by omega)
 have h2:∀(l:List bS) (q:Option bS),(∀r∈l,fb r=true∧r.bB.ab.length≤1000000000)→(seqB ie q l).length≤300 * cO (l.map bS.bB):=by
  intro l
  induction l with
  | nil=>intro q _;simp[seqB]
  | cons x l ih =>
    intro q hq;obtain⟨hw0,hw1⟩:=mv (hq x (by simp)).1;have h3:=mB hw1.toAD (hq x (by simp)).2;have h4:=ih (some x) (fun r hr=>hq r (by simp[hr]));have h5:=nine (n:=x.cy.data.toList.length) (by omega);have h6:cO ((x::l).map bS.bB)=x.bB.ab.length+1+cO (l.map bS.bB):=by unfold cO;simp
    have hg:(ie q x).length≤33+(cB x.bB).length:=by unfold ie;simp only[List.length_append];omega
    rw[seqB,List.length_append,h6];omega
 have h3:=h2 rs none (fun r hr=>⟨h r hr,by have:=tO (List.mem_map.2 ⟨r,hr,rfl⟩:r.bB∈rs.map bS.bB);omega⟩);rw[List.length_append];omega
theorem gI (rs:List RL):(rs.map RL.d).map bS.bB=rs.map fun r=>r.p.d:=by rw[List.map_map];rfl
theorem vV (W:World)(q:PL)(hp:q.ok W)(hv:q.d.vec.length≤1000000000000)(hcl:q.d.ab.length≤1000000000)(hN:bJ q.d=true):Calls Tryz.prog 362 #[.agg #[.slice q.va q.d.vec.length q.vc,.slice q.ca q.d.ab.length q.cc]] W fun e w'=>∃A' c',e=.returned (.tuple #[.slice A' (cB q.d).length c',.int .i64 0])∧Sat W w' [row 5 1 (.slice A' (cB q.d).length c') (cB q.d).length ((cB q.d).map ai)]:=by
 refine bP Tryz.func362 [0] ?_;have O:=Sat.start W;have hk:=(fw.1 hN).toAD;have hbm:=mB hk hcl;refine uC 2 ?_;refine uB rfl O ?_;clear O;intro b1 w O;refine uO 7 ?_;refine u1 0 (lS (cs:=[_,_]) rfl) ?_;refine uF rfl (fB _ q (hp.sat O) (by omega) hv) ?_;rintro e w ⟨rfl,hT⟩;rw[hN];replace O:Sat _ _ _:=O.ag hT;clear hT;refine u1 7 (aI rfl) ?_;refine uF rfl (eK _) ?_;rintro e w ⟨p0,rfl,hT⟩;replace O:=O.au hT;clear hT;change Sat W w (a6 p0 (.cells #[.slice none 0 0,.bool false] 263)::_) at O;refine u1 0 (aZ rfl) ?_;refine u1 0 (lS (cs:=[_,_]) rfl) ?_;intro a I;refine o1 0 I (aM I rfl yj) ?_;clear I a;refine uN DT O ?_;clear O;intro b4 w O;refine uW (vs:=[_,_]) (cs':=[_,_]) rfl rfl EW O ?_;clear O;intro w O;refine uO 4 ?_;refine u1 0 (lS (cs:=[_,_]) rfl) ?_
 refine uF rfl (sq _ _ _ b4 none 0 [] false q ((O.aX 5 1).p 1) hp hk hcl (by simp)) ?_;clear O;rintro e w ⟨rfl,A13,c13,O⟩;refine uO 4 ?_;refine u1 0 (aa rfl dQ) ?_;refine uF rfl (nd _ _ _ b4 A13 c13 _ false O (O.p 1).rd (by simp only[List.nil_append];omega)) ?_;rintro e w ⟨A15,c15,rfl,hT⟩;replace O:=O.au hT;clear hT;simp only[Bool.false_eq_true,if_false,List.nil_append]at O ⊢;refine u1 0 (an rfl rfl) ?_;refine u1 5 (an rfl rfl) ?_;refine ft ?_;exact⟨_,_,rfl,bY O⟩
theorem rY (W:World)(B:Option Addr)(d:Nat)(xs:List aR)(hX:fK W B d xs)(hxl:xs.length≤1000000000)(hN:cd xs=true):Calls Tryz.prog 361 #[.slice B (xs).length d] W fun e w'=>∃A' c',e=.returned (.tuple #[.slice A' (cI xs).length c',.int .i64 0])∧Sat W w' [row 5 1 (.slice A' (cI xs).length c') (cI xs).length ((cI xs).map ai)]:=by
 refine bP Tryz.func361 [0] ?_;have O:=Sat.start W;have hk:=i7 hN;have hbm:=kR hk hxl;refine uC 10 ?_;refine uF rfl (gx _ B d xs (hX.sat O) (by omega)) ?_;rintro e w ⟨rfl,hT⟩;rw[if_pos hN];replace O:Sat _ _ _:=O.ag hT;clear hT;refine u1 7 (dY (aG rfl rfl) (by omega)) ?_;refine uF rfl (eK _) ?_;rintro e w ⟨p0,rfl,hT⟩;replace O:=O.au hT;clear hT;change Sat W w (a6 p0 (.cells #[.slice none 0 0,.bool false] 263)::_) at O;refine u1 0 (aZ rfl) ?_;refine u1 0 (lS (cs:=[_,_]) rfl) ?_;intro a I;refine o1 0 I (aM I rfl yj) ?_;clear I a;refine uN DT O ?_;clear O;intro b4 w O;refine uW (vs:=[_,_]) (cs':=[_,_]) rfl rfl EW O ?_;clear O;intro w O;refine uO 5 ?_;refine uF rfl (zP _ _ _ b4 none 0 [] false B d xs ((O.aX 5 1).p 1) hX hk hxl (by simp)) ?_;clear O;rintro e w ⟨rfl,A13,c13,O⟩
 refine uO 4 ?_;refine u1 0 (aa rfl dQ) ?_;refine uF rfl (nd _ _ _ b4 A13 c13 _ false O (O.p 1).rd (by simp only[List.nil_append];omega)) ?_;rintro e w ⟨A15,c15,rfl,hT⟩;replace O:=O.au hT;clear hT;simp only[Bool.false_eq_true,if_false,List.nil_append]at O ⊢;refine u1 0 (an rfl rfl) ?_;refine u1 5 (an rfl rfl) ?_;refine ft ?_;exact⟨_,_,rfl,bY O⟩
theorem r5 (W:World)(B:Option Addr)(d:Nat)(rs:List RL)(hR:fG W B d rs)(hE:∀r∈rs,r.p.ok W)(hB:dy 1000000000 rs)(hs:cO (rs.map fun r=>r.p.d)≤1000000000)(hN:cC (rs.map RL.d)=true):Calls Tryz.prog 363 #[.slice B (rs).length d] W fun e w'=>∃A' c',e=.returned (.tuple #[.slice A' (bV (rs.map RL.d)).length c',.int .i64 0])∧Sat W w' [row 5 1 (.slice A' (bV (rs.map RL.d)).length c') (bV (rs.map RL.d)).length ((bV (rs.map RL.d)).map ai)]:=by
 refine bP Tryz.func363 [0] ?_;have O:=Sat.start W;have hrl:=jh hs;have hk:=fA hN;have hbm:=kT hk (by rw[gI];exact hs);intro a I;rw[gI]at hbm;refine rC 10 I ?_;clear I a;refine uF rfl (fy _ B d rs (hR.sat O) (fun r h=>(hE r h).sat O) (hB.mono (by decide)) (by omega)) ?_;rintro e w ⟨rfl,hT⟩;rw[if_pos hN];replace O:Sat _ _ _:=O.ag hT;clear hT;refine u1 7 (dY (aG rfl rfl) (by omega)) ?_;refine uF rfl (eK _) ?_;rintro e w ⟨p0,rfl,hT⟩;replace O:=O.au hT;clear hT;change Sat W w (a6 p0 (.cells #[.slice none 0 0,.bool false] 263)::_) at O;refine u1 0 (aZ rfl) ?_;refine u1 0 (lS (cs:=[_,_]) rfl) ?_;intro a I;refine o1 0 I (aM I rfl yj) ?_;clear I a;refine uN DT O ?_;clear O;intro b4 w O;refine uW (vs:=[_,_]) (cs':=[_,_]) rfl rfl EW O ?_;clear O;intro w O;refine uO 5 ?_
 refine uF rfl (y1 _ _ _ b4 none 0 [] false B d rs ((O.aX 5 1).p 1) hR hE (fun r hr=>(hB r hr).2) hk (by omega) (by simp only[List.length_nil];omega)) ?_;clear O;rintro e w ⟨rfl,A13,c13,O⟩;refine uO 4 ?_;refine u1 0 (aa rfl dQ) ?_;refine uF rfl (nd _ _ _ b4 A13 c13 _ false O (O.p 1).rd (by simp only[List.nil_append];omega)) ?_;rintro e w ⟨A15,c15,rfl,hT⟩;replace O:=O.au hT;clear hT;simp only[Bool.false_eq_true,if_false,List.nil_append]at O ⊢;refine u1 0 (an rfl rfl) ?_;refine u1 5 (an rfl rfl) ?_;refine ft ?_;exact⟨_,_,rfl,bY O⟩
def fr (b:List UInt8):List UInt8:=aE b.length++b
def cq (k:Nat)(s:iW):List UInt8:=aE k++(fr (cI s.kL)++(fr (cB s.bB)++fr (bV s.lY)))
def dR (f:iW→Bool)(k:Nat)(s:iW):List UInt8:=if f s=true then cq k s else []
def pg (f:iW→Bool)(s:iW):Int:=if f s=true then 0 else 1
theorem fH {f:iW→Bool}{k:Nat}{s:iW}(h:f s=false):dR f k s=[]:=if_neg (by rw[h];decide)
theorem jE {f:iW→Bool}{s:iW}(h:f s=false):pg f s=1:=if_neg (by rw[h];decide)
theorem eJ {f:iW→Bool}{k:Nat}{s:iW}(h:f s=true):dR f k s=cq k s:=if_pos h
theorem ir {f:iW→Bool}{s:iW}(h:f s=true):pg f s=0:=if_pos h
theorem a7 {s:iW}(h:aB s=true):cd s.kL=true∧bJ s.bB=true∧cC s.lY=true:=by
 unfold aB at h;simpa only [Bool.and_eq_true]using h
theorem dZ {s:iW}(h:bz s=true):aB s=true:=by
 unfold bz at h;rw[Bool.and_eq_true]at h;exact h.1
theorem vo (W:World)(k:Nat)(ea:Option Addr)(ec:Nat)(es:List aR)(p:PL)(ra:Option Addr)(rc:Nat)(rs:List RL)(hk:k≤100)(he:fK W ea ec es)(hpp:p.ok W)(hrt:fG W ra rc rs)(hre:∀r∈rs,r.p.ok W)(hel:es.length≤16777216)(hpv:p.d.vec.length≤1000000000000)(hpc:p.d.ab.length≤16777216)(hrv:∀r∈rs,r.p.d.vec.length≤1000000000000)(hrs:cO (rs.map fun r=>r.p.d)≤16777216)(hE1:cd es=true)(hE2:bJ p.d=true)(hE3:cC (rs.map RL.d)=true):Calls Tryz.prog 349 #[.int .i64 (k:Int),.slice ea (es).length ec,.agg #[.slice p.va p.d.vec.length p.vc,.slice p.ca p.d.ab.length p.cc],.slice ra (rs).length rc] W fun e w'=>∃A' c',e=.returned (.tuple #[.slice A' (cq k ⟨es,p.d,rs.map RL.d⟩).length c',.int .i64 0])∧Sat W w' [row 5 1 (.slice A' (cq k ⟨es,p.d,rs.map RL.d⟩).length c') (cq k ⟨es,p.d,rs.map RL.d⟩).length ((cq k ⟨es,p.d,rs.map RL.d⟩).map ai)]:=by
 refine bP Tryz.func349 [0,1,2,3] ?_;have O:=Sat.start W;have hk1:=kR (i7 hE1) (by omega);have hk2:=mB (fw.1 hE2).toAD (by omega);have hk3:=kT (fA hE3) (by rw[gI];omega);intro a I;rw[gI]at hk3;have hk4:=nine (n:=(cI es).length) (by omega);have hk5:=nine (n:=(cB p.d).length) (by omega);have hk6:=nine (n:=(bV (rs.map RL.d)).length) (by omega);have hk7:=nine (n:=k) (by omega);refine rC 2 I ?_;clear I a;refine uB rfl O ?_;clear O;intro b6 w O;refine uO 7 ?_;refine uF rfl (rY _ ea ec es (he.sat O) (by omega) hE1) ?_;rintro e w ⟨A19,c19,rfl,hT⟩;replace O:=O.au hT;clear hT;refine uO 1 ?_;refine u1 0 (an rfl rfl) ?_;refine u1 8 (an rfl rfl) ?_;refine u1 7 (dY (aG rfl rfl) (by omega)) ?_;refine u1 0 (lS (cs:=[_,_]) rfl) ?_
 refine uF rfl (vV _ p (hpp.sat O) hpv (by omega) hE2) ?_;rintro e w ⟨A27,c27,rfl,hT⟩;replace O:=O.au hT;clear hT;refine uO 1 ?_;refine u1 0 (an rfl rfl) ?_;refine u1 8 (an rfl rfl) ?_;refine u1 2 (dY (aG rfl rfl) (by omega)) ?_;intro a I;replace I:=I.kp [0,3,8,9,10,11,12,31] rfl;refine rC 6 I ?_;clear I a;refine uF rfl (r5 _ ra rc rs (hrt.sat O) (fun r h=>(hre r h).sat O) ((eQ hrv hrs).mono (by decide)) (by omega) hE3) ?_;rintro e w ⟨A35,c35,rfl,hT⟩;replace O:=O.au hT;clear hT;refine uO 1 ?_;refine u1 0 (an rfl rfl) ?_;refine u1 8 (an rfl rfl) ?_;refine u1 7 (dY (aG rfl rfl) (by omega)) ?_;refine uF rfl (eK _) ?_;rintro e w ⟨p0,rfl,hT⟩;replace O:=O.au hT;clear hT;refine uO 7 ?_;refine uF rfl (fk _ _ _ p0 none 0 [] false k ((O.aX 5 1).p 1) (by simp) (by omega)) ?_
 clear O;rintro e w ⟨rfl,A44,c44,O⟩;rw[rb (by omega),Int.toNat_natCast]at O;simp only[Bool.not_true,Bool.or_false]at O;refine uO 8 ?_;intro a I;refine nF I rfl rfl EI JY rfl rfl rfl (by simp[Value.oneCell']) O ?_;clear I a O;intro A48 w O;intro a I;replace O:=((O.p 2).p 2);refine o1 3 I (ak (I.ev rfl) EI) ?_;clear I a;intro a I;replace I:=I.kp [8,9,14,48,49,50] rfl;refine rC 1 I ?_;clear I a;intro a I;refine wp_loop_rounds 4 ?_;refine a8 ?_;refine rC 2 I ?_;clear I a;refine aK 0 0 (aq rfl rfl) ?_ ?_
 ·intro h51;refine uO 10 ?_;obtain⟨A48_p,rfl⟩:∃q,A48=some q:=(O.p 2).rd.ao (by omega);refine u1 0 (ix rfl rfl EI jC) ?_;refine u1 6 (aj rfl nH (eO (O.p 2).rd rfl)) ?_;refine uF rfl (jz _ _ _ p0 _ _ _ false (str (cI es)) A19 c19 O (by simp only[List.length_append,List.length_nil];omega) (fun w' M N s=>(s.p 5).rd) (by show _+(cI es).length≤_;simp only[List.length_append,List.length_nil];omega)) ?_;clear O;rintro e w ⟨rfl,Af1,cf1,O⟩;rw[Gx (.inr rfl)]at O;dsimp only[ox]at O;refine uO 4 ?_;refine u1 2 (aH (ad rfl rfl) (show _=Value.int .i64 1 from rfl)) ?_;intro a I;refine a8 ?_;refine rC 2 I ?_;clear I a;refine aK 0 0 (aq rfl rfl) ?_ ?_
  ·intro h51;refine uO 10 ?_;refine u1 0 (ix rfl rfl EI jC) ?_;refine u1 6 (aj rfl nH (eO (O.p 2).rd rfl)) ?_;refine uF rfl (jz _ _ _ p0 _ _ _ false (str (cB p.d)) A27 c27 O (by simp only[List.length_append,List.length_nil];omega) (fun w' M N s=>(s.p 4).rd) (by show _+(cB p.d).length≤_;simp only[List.length_append,List.length_nil];omega)) ?_;clear O;rintro e w ⟨rfl,Af2,cf2,O⟩;rw[Gx (.inr rfl)]at O;dsimp only[ox]at O;refine uO 3 ?_;intro a I;replace I:=I.kp [8,9,14,16,48,49,50,51,52,53,54,55,57] rfl;refine rC 1 I ?_;clear I a;refine u1 2 (aH (ad rfl rfl) (show _=Value.int .i64 2 from rfl)) ?_;intro a I;refine a8 ?_;refine rC 2 I ?_;clear I a;refine aK 0 0 (aq rfl rfl) ?_ ?_
   ·intro h51;refine uO 10 ?_;refine u1 0 (ix rfl rfl EI jC) ?_;refine u1 6 (aj rfl nH (eO (O.p 2).rd rfl)) ?_;refine uF rfl (jz _ _ _ p0 _ _ _ false (str (bV (rs.map RL.d))) A35 c35 O (by simp only[List.length_append,List.length_nil];omega) (fun w' M N s=>(s.p 3).rd) (by show _+(bV (rs.map RL.d)).length≤_;simp only[List.length_append,List.length_nil];omega)) ?_;clear O;rintro e w ⟨rfl,Af3,cf3,O⟩;rw[Gx (.inr rfl)]at O;dsimp only[ox]at O;refine uO 4 ?_;refine u1 2 (aH (ad rfl rfl) (show _=Value.int .i64 3 from rfl)) ?_;intro a I;refine a8 ?_;refine rC 2 I ?_;clear I a;refine aK 0 0 (aq rfl rfl) ?_ ?_
    ·intro h51;intro a I
     try (contradiction)
     all_goals
      fail "unrolled enough"
    ·intro h51;refine uO 9 ?_;intro a I;replace I:=I.kp [8,9,14] rfl;refine rC 3 I ?_;clear I a;refine uF rfl (pW _ _ _ p0 Af3 cf3 _ false O (O.p 1).rd (by simp only[List.length_append,List.length_nil];omega)) ?_;rintro e w ⟨A59,c59,rfl,hT⟩;replace O:=O.au hT;clear hT;simp only[Bool.false_eq_true,if_false,List.nil_append]at O ⊢;refine u1 0 (an rfl rfl) ?_;refine u1 5 (an rfl rfl) ?_;refine ft ?_;have ho:aE k++(aE (cI es).length++cI es)++(aE (cB p.d).length++cB p.d)++(aE (bV (rs.map RL.d)).length++bV (rs.map RL.d))=cq k ⟨es,p.d,rs.map RL.d⟩:=by unfold cq fr;simp only[List.append_assoc]
     rw[ho]at O ⊢;exact⟨_,_,rfl,bY O⟩
   ·intro h51;intro a I;contradiction
  ·intro h51;intro a I;contradiction
 ·intro h51;intro a I;contradiction
theorem uz (W:World)(s:SL)(hp:s.ok W)(hs:j0 s):Calls Tryz.prog 428 #[.agg #[.slice s.e.a s.e.es.length s.e.c,.slice s.p.va s.p.d.vec.length s.p.vc,.slice s.p.ca s.p.d.ab.length s.p.cc,.slice s.r.a s.r.rs.length s.r.c]] W fun e w'=>∃A' c',e=.returned (.tuple #[.slice A' (dR aB 1 s.d).length c',.int .i64 (pg aB s.d)])∧Sat W w' [row 5 1 (.slice A' (dR aB 1 s.d).length c') (dR aB 1 s.d).length ((dR aB 1 s.d).map ai)]:=by
 refine bP Tryz.func428 [0] ?_;have O:=Sat.start W;obtain⟨⟨ea,ec,es⟩,p,⟨ra,rc,rs⟩⟩:=s;have he:fK W ea ec es:=hp.e;have hpp:p.ok W:=hp.p;have hrt:fG W ra rc rs:=hp.r.top;have hre:∀r∈rs,r.p.ok W:=hp.r.each;have hel:es.length≤16777216:=hs.es;have hpv:p.d.vec.length≤1000000000000:=hs.pv;have hpc:p.d.ab.length≤16777216:=hs.pc;have hrs:cO (rs.map fun r=>r.p.d)≤16777216:=hs.rs;have hrb:dy 10000000000 rs:=(eQ hs.rv hrs).mono (by decide);have hrl:=jh hrs;refine uC 2 ?_;refine uB rfl O ?_;clear O;intro b1 w O;refine uO 7 ?_;refine u1 0 (lS (cs:=[_,_,_,_]) rfl) ?_;refine uF rfl (qO _ ⟨⟨ea,ec,es⟩,p,⟨ra,rc,rs⟩⟩ (hp.sat O) hs) ?_;rintro e w ⟨rfl,hT⟩;replace O:Sat _ _ _:=O.ag hT;clear hT;cases h5:aB (SL.d ⟨⟨ea,ec,es⟩,p,⟨ra,rc,rs⟩⟩)
 ·rw[if_neg (by decide)];refine aK 0 0 (aG rfl rfl) ?_ ?_
  ·intro h6;refine uO 11 ?_;refine ft ?_;rw[fH h5,jE h5];exact⟨none,0,rfl,bY (O.aX 5 1)⟩
  ·intro h6;intro a I;contradiction
 ·rw[if_pos rfl];refine aK 0 0 (aG rfl rfl) ?_ ?_
  ·intro h6;intro a I;contradiction
  ·intro h6;refine uO 7 ?_;refine u1 0 (aa rfl rq) ?_;refine u1 0 (ld rfl) ?_;refine u1 0 (aa rfl sh) ?_;refine u1 0 (lS (cs:=[_,_]) rfl) ?_;refine u1 0 (aa rfl r8) ?_;refine u1 0 (ld rfl) ?_;refine uF rfl (vo _ 1 ea ec es p ra rc rs (by decide) (he.sat O) (hpp.sat O) (hrt.sat O) (fun r h=>(hre r h).sat O) hel hpv hpc hs.rv hrs (a7 h5).1 (a7 h5).2.1 (a7 h5).2.2) ?_;rintro e w ⟨A13,c13,rfl,hT⟩;replace O:=O.au hT;clear hT;refine u1 0 (an rfl rfl) ?_;refine u1 5 (an rfl rfl) ?_;refine ft ?_;rw[eJ h5,ir h5];exact⟨A13,c13,rfl,bY O⟩
theorem vR (W:World)(s:SL)(hp:s.ok W)(hs:j0 s):Calls Tryz.prog 337 #[.agg #[.slice s.e.a s.e.es.length s.e.c,.slice s.p.va s.p.d.vec.length s.p.vc,.slice s.p.ca s.p.d.ab.length s.p.cc,.slice s.r.a s.r.rs.length s.r.c]] W fun e w'=>∃A' c',e=.returned (.tuple #[.slice A' (dR bz 2 s.d).length c',.int .i64 (pg bz s.d)])∧Sat W w' [row 5 1 (.slice A' (dR bz 2 s.d).length c') (dR bz 2 s.d).length ((dR bz 2 s.d).map ai)]:=by
 refine bP Tryz.func337 [0] ?_;have O:=Sat.start W;obtain⟨⟨ea,ec,es⟩,p,⟨ra,rc,rs⟩⟩:=s;have he:fK W ea ec es:=hp.e;have hpp:p.ok W:=hp.p;have hrt:fG W ra rc rs:=hp.r.top;have hre:∀r∈rs,r.p.ok W:=hp.r.each;have hel:es.length≤16777216:=hs.es;have hpv:p.d.vec.length≤1000000000000:=hs.pv;have hpc:p.d.ab.length≤16777216:=hs.pc;have hrs:cO (rs.map fun r=>r.p.d)≤16777216:=hs.rs;have hrb:dy 10000000000 rs:=(eQ hs.rv hrs).mono (by decide);have hrl:=jh hrs;refine uC 2 ?_;refine uB rfl O ?_;clear O;intro b1 w O;refine uO 7 ?_;refine u1 0 (lS (cs:=[_,_,_,_]) rfl) ?_;refine uF rfl (rf _ ⟨⟨ea,ec,es⟩,p,⟨ra,rc,rs⟩⟩ (hp.sat O) hs) ?_;rintro e w ⟨rfl,hT⟩;replace O:Sat _ _ _:=O.ag hT;clear hT;cases h5:bz (SL.d ⟨⟨ea,ec,es⟩,p,⟨ra,rc,rs⟩⟩)
 ·rw[if_neg (by decide)];refine aK 0 0 (aG rfl rfl) ?_ ?_
  ·intro h6;refine uO 11 ?_;refine ft ?_;rw[fH h5,jE h5];exact⟨none,0,rfl,bY (O.aX 5 1)⟩
  ·intro h6;intro a I;contradiction
 ·rw[if_pos rfl];have hFf:=dZ h5;refine aK 0 0 (aG rfl rfl) ?_ ?_
  ·intro h6;intro a I;contradiction
  ·intro h6;refine uO 7 ?_;refine u1 0 (aa rfl jU) ?_;refine u1 0 (ld rfl) ?_;refine u1 0 (aa rfl lX) ?_;refine u1 0 (lS (cs:=[_,_]) rfl) ?_;refine u1 0 (aa rfl j3) ?_;refine u1 0 (ld rfl) ?_;refine uF rfl (vo _ 2 ea ec es p ra rc rs (by decide) (he.sat O) (hpp.sat O) (hrt.sat O) (fun r h=>(hre r h).sat O) hel hpv hpc hs.rv hrs (a7 hFf).1 (a7 hFf).2.1 (a7 hFf).2.2) ?_;rintro e w ⟨A13,c13,rfl,hT⟩;replace O:=O.au hT;clear hT;refine u1 0 (an rfl rfl) ?_;refine u1 5 (an rfl rfl) ?_;refine ft ?_;rw[eJ h5,ir h5];exact⟨A13,c13,rfl,bY O⟩
theorem y5 (W:World)(s:SL)(hp:s.ok W)(hs:j0 s):Calls Tryz.prog 423 #[.agg #[],.agg #[.slice s.e.a s.e.es.length s.e.c,.slice s.p.va s.p.d.vec.length s.p.vc,.slice s.p.ca s.p.d.ab.length s.p.cc,.slice s.r.a s.r.rs.length s.r.c]] W fun e w'=>∃A' c',e=.returned (.tuple #[.slice A' (dR aB 1 s.d).length c',.int .i64 (pg aB s.d)])∧Sat W w' [row 5 1 (.slice A' (dR aB 1 s.d).length c') (dR aB 1 s.d).length ((dR aB 1 s.d).map ai)]:=by
 refine bP Tryz.func423 [0,1] ?_;have O:=Sat.start W;refine uC 2 ?_;refine uB rfl O ?_;clear O;intro b2 w O;refine uB rfl O ?_;clear O;intro b3 w O;refine uO 6 ?_;refine u1 0 (lS (cs:=[_,_,_,_]) rfl) ?_;refine uF rfl (uz _ s (hp.sat O) hs) ?_;rintro e w ⟨A7,c7,rfl,hT⟩;replace O:=O.au hT;clear hT;refine u1 0 (an rfl rfl) ?_;refine u1 5 (an rfl rfl) ?_;refine ft ?_;exact⟨A7,c7,rfl,bY O⟩
theorem yJ (W:World)(s:SL)(hp:s.ok W)(hs:j0 s):Calls Tryz.prog 331 #[.agg #[],.agg #[.slice s.e.a s.e.es.length s.e.c,.slice s.p.va s.p.d.vec.length s.p.vc,.slice s.p.ca s.p.d.ab.length s.p.cc,.slice s.r.a s.r.rs.length s.r.c]] W fun e w'=>∃A' c',e=.returned (.tuple #[.slice A' (dR bz 2 s.d).length c',.int .i64 (pg bz s.d)])∧Sat W w' [row 5 1 (.slice A' (dR bz 2 s.d).length c') (dR bz 2 s.d).length ((dR bz 2 s.d).map ai)]:=by
 refine bP Tryz.func331 [0,1] ?_;have O:=Sat.start W;refine uC 2 ?_;refine uB rfl O ?_;clear O;intro b2 w O;refine uB rfl O ?_;clear O;intro b3 w O;refine uO 6 ?_;refine u1 0 (lS (cs:=[_,_,_,_]) rfl) ?_;refine uF rfl (vR _ s (hp.sat O) hs) ?_;rintro e w ⟨A7,c7,rfl,hT⟩;replace O:=O.au hT;clear hT;refine u1 0 (an rfl rfl) ?_;refine u1 5 (an rfl rfl) ?_;refine ft ?_;exact⟨A7,c7,rfl,bY O⟩
theorem mF {α:Type}{f:Option α→List UInt8→Option (α×List UInt8)}{n:Nat}{p:Option α}{l r:List UInt8}{x:α}{xs:List α}{R:Option (List α×List UInt8)}
 (hq:R=(fh f (n+1) p l).map fun q=>(xs++q.1,q.2)) (h:f p l=some (x,r)):R=(fh f n (some x) r).map fun q=>(xs++[x]++q.1,q.2):=by
 rw[hq,sg h,Option.map_map]
 congr 1
 funext q
 simp
theorem dA {α:Type}{f:Option α→List UInt8→Option (α×List UInt8)}{n:Nat}{p:Option α}{l:List UInt8}{xs:List α}{R:Option (List α×List UInt8)}
 (hq:R=(fh f (n+1) p l).map fun q=>(xs++q.1,q.2)) (h:f p l=none):R=none:=by rw[hq,wA h];rfl
theorem rh {α:Type}{f:Option α→List UInt8→Option (α×List UInt8)}{p:Option α}{l:List UInt8}{xs:List α}{R:Option (List α×List UInt8)}
 (hq:R=(fh f 0 p l).map fun q=>(xs++q.1,q.2)):R=some (xs,l):=by rw[hq,fh];simp
theorem mY {α:Type}{f:Option α→List UInt8→Option (α×List UInt8)}{n:Nat}{p:Option α}{l:List UInt8}:fh f n p l=(fh f n p l).map fun q=>(([]:List α)++q.1,q.2):=by
 cases fh f n p l with
 | none=>rfl
 | some q=>rfl
theorem fN {α:Type}(xs:List α)(x:α):(xs++[x]).getLast?=some x:=by simp
theorem cg (W w:World)(L:List As)(r:Nat)(A:Option Addr)(c:Nat)(bs:List UInt8)(at_:Nat)(mo:Int)(O:Sat W w (gU r A c bs at_ true 0::L))(hat:at_≤bs.length)(hb:bs.length≤140737488355328)(hR:∀w,Sat W w L→Rd w 1 (.slice A bs.length c) bs.length (bs.map ai)):Calls Tryz.prog 100 #[.pointer (some ⟨r,0,none⟩),.int .i64 mo] w fun e w'=>
 (∃v at':Nat,bM mo (bs.drop at_)=some (v,bs.drop at')∧at'≤bs.length∧(v:Int)≤mo∧v≤9223372036854775807∧e=.returned (.int .i64 (v:Int))∧Sat W w' (gU r A c bs (at':Int) true 0::L))∨(bM mo (bs.drop at_)=none∧xv (.iface 271 (.agg #[.pointer (some ⟨r,0,none⟩)])) e∧∃at' er:Int,er≠0∧Sat W w' (gU r A c bs at' true er::L)):=
 (p8 W w L r A c bs at_ mo O hat hb hR).mono fun e w' h=>by
  rcases h with ⟨h0,he,hs⟩ | ⟨h0,hp,at',hs⟩
  ·
   obtain⟨v,a,hu,h1,h2,h3,h4⟩:=JA h0;rw[hu]at he hs;exact .inl ⟨v,a,h1,h2,h3,h4,he,hs⟩
  ·
   exact .inr ⟨vb h0,hp,at',_,by omega,hs⟩
theorem gP (W w:World)(L:List As)(r:Nat)(A:Option Addr)(c:Nat)(bs:List UInt8)(at_:Nat)(ea:Int)(O:Sat W w (gU r A c bs at_ true 0::L))(hat:at_≤bs.length)(hb:bs.length≤140737488355328)(hR:∀w,Sat W w L→Rd w 1 (.slice A bs.length c) bs.length (bs.map ai))(h1:1≤ea)(h2:ea≤9223372036854775807):Calls Tryz.prog 102 #[.pointer (some ⟨r,0,none⟩),.int .i64 ea] w fun e w'=>
 (∃v at':Nat,bM 9223372036854775807 (bs.drop at_)=some (v,bs.drop at')∧at'≤bs.length∧v * ea.toNat≤bs.length-at'∧e=.returned (.int .i64 (v:Int))∧Sat W w' (gU r A c bs (at':Int) true 0::L))∨
 ((bM 9223372036854775807 (bs.drop at_)=none∨∃(v:Nat) (rr:List UInt8),bM 9223372036854775807 (bs.drop at_)=some (v,rr)∧rr.length<v * ea.toNat)∧xv (.iface 271 (.agg #[.pointer (some ⟨r,0,none⟩)])) e∧∃at' er:Int,er≠0∧Sat W w' (gU r A c bs at' true er::L)):=
 (xn W w L r A c bs at_ ea O hat hb hR h2).mono fun e w' h=>by
  rcases h with ⟨h0,he,hs⟩ | ⟨h0,hp,at',hs⟩
  ·
   obtain⟨v,a,hu,h3,h4,h5⟩:=Kn h1 h0;rw[hu]at he hs;exact .inl ⟨v,a,h3,h4,h5,he,hs⟩
  ·
   exact .inr ⟨G1 h1 h0,hp,at',_,by omega,hs⟩
theorem nk (W w:World)(L:List As)(r:Nat)(A:Option Addr)(c:Nat)(bs:List UInt8)(at_:Nat)(mo:Int)(O:Sat W w (gU r A c bs at_ true 0::L))(hat:at_≤bs.length)(hb:bs.length≤140737488355328)(hR:∀w,Sat W w L→Rd w 1 (.slice A bs.length c) bs.length (bs.map ai)):Calls Tryz.prog 394 #[.pointer (some ⟨r,0,none⟩),.int .i64 mo] w fun e w'=>
 (∃(s:List UInt8) (at':Nat),dh mo (bs.drop at_)=some (s,bs.drop at')∧at'≤bs.length∧e=.returned (.string (str s))∧Sat W w' (gU r A c bs (at':Int) true 0::L))∨(dh mo (bs.drop at_)=none∧xv (.iface 271 (.agg #[.pointer (some ⟨r,0,none⟩)])) e∧∃at' er:Int,er≠0∧Sat W w' (gU r A c bs at' true er::L)):=
 (yY W w L r A c bs at_ mo O hat hb hR).mono fun e w' h=>by
  rcases h with ⟨h0,he,hs⟩ | ⟨h0,hp,at',hs⟩
  ·
   obtain⟨s,a,hu,h1,h2⟩:=Kc h0;rw[hu]at he hs;exact .inl ⟨s,a,h1,h2,he,hs⟩
  ·
   exact .inr ⟨wx h0,hp,at',_,by omega,hs⟩
theorem Cw {most:Int}{p:Option Int}{l r:List UInt8}{v:Nat}(h:bM most l=some (v,r)):(ki most).f p l=some ((v:Int),r):=by
 show (match bM most l with | none=>none | some (v,r)=>some ((v:Int),r))=_;rw[h]
theorem CI {most:Int}{p:Option Int}{l:List UInt8}(h:bM most l=none):(ki most).f p l=none:=by
 show (match bM most l with | none=>none | some (v,r)=>some ((v:Int),r))=_;rw[h]
theorem Fv {l:List UInt8}(h:bM 16 l=none):fp l=none:=by unfold fp;rw[h]
theorem FR {l l1:List UInt8}{n:Nat}(h:bM 16 l=some (n,l1))(h2:fh (ki 1000000000).f n none l1=none):fp l=none:=by unfold fp;rw[h];simp only;rw[h2]
theorem Gd {l l1 l2:List UInt8}{n:Nat}{vec:List Int}(h:bM 16 l=some (n,l1))(h2:fh (ki 1000000000).f n none l1=some (vec,l2))(h3:bM 9223372036854775807 l2=none):fp l=none:=by unfold fp;rw[h];simp only;rw[h2];simp only;rw[h3]
theorem oJ {l l1 l2 l3:List UInt8}{n k:Nat}{vec:List Int}(h:bM 16 l=some (n,l1))(h2:fh (ki 1000000000).f n none l1=some (vec,l2))(h3:bM 9223372036854775807 l2=some (k,l3))(h4:fh (gD vec) k none l3=none):fp l=none:=by unfold fp;rw[h];simp only;rw[h2];simp only;rw[h3];simp only;rw[h4]
theorem FE {l l1 l2 l3 r:List UInt8}{n k:Nat}{vec:List Int}{cl:List aN}(h:bM 16 l=some (n,l1))(h2:fh (ki 1000000000).f n none l1=some (vec,l2))(h3:bM 9223372036854775807 l2=some (k,l3))(h4:fh (gD vec) k none l3=some (cl,r)):fp l=some (⟨vec,cl⟩,r):=by unfold fp;rw[h];simp only;rw[h2];simp only;rw[h3];simp only;rw[h4]
theorem AU {vec:List Int}(hv:∀v∈vec,0≤v∧v≤1000000000){k:Nat}{l:List UInt8}(h:l.length<k * 3):fh (gD vec) k none l=none:=by
 cases e:fh (gD vec) k none l with
 | none=>rfl
 | some q =>
   obtain⟨xs,r⟩:=q;have:=Fo (td vec fun r=>(dt hv r).1) (k:=3) (p:=none) (fun q hq=>by cases hq) (fun p x=>w6 vec p x) e;omega
theorem FV {vec:List Int}{p:Option aN}{l:List UInt8}(h:bM 16 l=none):gD vec p l=none:=by unfold gD;rw[h]
theorem F3 {vec:List Int}{p:Option aN}{l l1:List UInt8}{st:Nat}(h:bM 16 l=some (st,l1))(h1:16≤cF p+st):gD vec p l=none:=by unfold gD;rw[h];simp only;rw[if_pos h1]
theorem FJ {vec:List Int}{p:Option aN}{l l1:List UInt8}{st:Nat}(h:bM 16 l=some (st,l1))(h2:bM 1000000000 l1=none):gD vec p l=none:=by
 unfold gD;rw[h];simp only
 split
 ·
  rfl
 ·
  rw[h2]
theorem Gf {vec:List Int}{p:Option aN}{l l1 l2:List UInt8}{st sk:Nat}(h:bM 16 l=some (st,l1))(h2:bM 1000000000 l1=some (sk,l2))(h3:bM 1000000000 l2=none):gD vec p l=none:=by
 unfold gD;rw[h];simp only
 split
 ·
  rfl
 ·
  rw[h2];simp only;rw[h3]
theorem FP {vec:List Int}{p:Option aN}{l l1 l2 l3:List UInt8}{st sk mo:Nat}(h:bM 16 l=some (st,l1))(h2:bM 1000000000 l1=some (sk,l2))(h3:bM 1000000000 l2=some (mo,l3))(h4:1000000000<bt vec p (cF p+st)+sk+mo):gD vec p l=none:=by
 unfold gD;rw[h];simp only
 split
 ·
  rfl
 ·
  rw[h2];simp only;rw[h3];simp only;rw[if_pos h4]
theorem Fy {vec:List Int}{p:Option aN}{l l1 l2 l3:List UInt8}{st sk mo:Nat}(h:bM 16 l=some (st,l1))(h1:¬16≤cF p+st)(h2:bM 1000000000 l1=some (sk,l2))(h3:bM 1000000000 l2=some (mo,l3))(h4:¬1000000000<bt vec p (cF p+st)+sk+mo):gD vec p l=some (⟨cF p+st,bt vec p (cF p+st)+sk,bt vec p (cF p+st)+sk+mo⟩,l3):=by
 unfold gD;rw[h];simp only;rw[if_neg h1,h2];simp only;rw[h3];simp only;rw[if_neg h4]
theorem C7 {vec:List Int}(hv:∀v∈vec,0≤v∧v≤1000000000){ys:List aN}(hy:∀s∈ys,0≤s.rep∧s.rep<16∧0≤s.hi∧s.hi≤1000000000)(rep:Int):0≤bt vec ys.getLast? rep∧bt vec ys.getLast? rep≤1000000002:=by
 unfold bt;have:=dt hv rep.toNat;cases e:ys.getLast? with
 | none=>simp only;omega
 | some q=>have:=hy q (List.mem_of_getLast? e);simp only;split<;>omega
theorem FM {ys:List aN}(hy:∀s∈ys,0≤s.rep∧s.rep<16∧0≤s.hi∧s.hi≤1000000000):0≤cF ys.getLast?∧cF ys.getLast? < 16:=by
 unfold cF;cases e:ys.getLast? with
 | none=>simp
 | some q=>have:=hy q (List.mem_of_getLast? e);simp only;omega
theorem pE (W w:World)(L:List As)(r:Nat)(A:Option Addr)(c:Nat)(bs:List UInt8)(at_:Nat)(O:Sat W w (gU r A c bs at_ true 0::L))(hat:at_≤bs.length)(hb:bs.length≤1000000000000)(hR:∀w,Sat W w L→Rd w 1 (.slice A bs.length c) bs.length (bs.map ai)):Calls Tryz.prog 383 #[.pointer (some ⟨r,0,none⟩)] w fun e w'=>(∃(q:PL) (at':Nat),fp (bs.drop at_)=some (q.d,bs.drop at')∧at'≤bs.length∧q.d.ab.length≤bs.length∧e=.returned (.agg #[.slice q.va q.d.vec.length q.vc,.slice q.ca q.d.ab.length q.cc])∧Sat W w' (gU r A c bs (at':Int) true 0::cM 3 q.va q.vc q.d.vec::bH 219 q.ca q.cc q.d.ab::L))∨(fp (bs.drop at_)=none∧xv (.iface 271 (.agg #[.pointer (some ⟨r,0,none⟩)])) e∧∃at' er:Int,er≠0∧Sat W w' (gU r A c bs at' true er::L)):=by
 refine bP Tryz.func383 [0] ?_;refine uC 2 ?_;refine uN dK O ?_;clear O;intro b2 w O;refine uO 4 ?_;refine uN dK O ?_;clear O;intro b3 w O;refine uO 6 ?_;intro a I;refine dX I rfl gO rfl (cg _ _ _ r A c bs at_ 16 (O.p 2) (by omega) (by omega) (fun w s=>hR w s.drop.drop)) ?_;rintro e w (⟨v8,at8,hn8,ha8,hv8,hw8,rfl,hS'⟩ | ⟨hn8,⟨older,rfl,ho⟩,at',er,hne,hS'⟩)
 ·clear O;have O:=hS';clear hS';refine .inl ⟨_,rfl,?_⟩;clear I a;refine uO 4 ?_;intro a I;refine wp_loop_ghost (fun (mm:Nat) a w=>∃(i:Nat) (xs:List Int) (Av:Option Addr) (cv at1:Nat),Ag a 59 [(0,.pointer (some ⟨r,0,none⟩)),(2,.pointer (some ⟨b2,0,none⟩)),(3,.pointer (some ⟨b3,0,none⟩)),(8,.int .i64 ((v8:Nat):Int)),(9,.int .i64 ((i:Nat):Int))]∧Sat W w (gU r A c bs (at1:Int) true 0::a6 b3 (.cells #[.slice Av xs.length cv,.slice none 0 0] 63)::cM 3 Av cv xs::a6 b2 (.cells #[.slice none 0 0,.slice none 0 0] 63)::L)∧(i≤v8)∧(xs.length=i)∧(at1≤bs.length)∧(fh (ki 1000000000).f v8 none (bs.drop at8)=(fh (ki 1000000000).f (v8-i) xs.getLast? (bs.drop at1)).map fun q=>(xs++q.1,q.2))∧(∀v∈xs,0≤v∧v≤1000000000)∧mm=v8-i) v8 ?_ ?_
  ·replace I:=I.kp [0,2,3,8,9] rfl;exact⟨0,[],none,0,at8,I,(((((O.aX 3 1).p 3).p 1).p 3).p 3),(by omega),(by rfl),(by omega),(by exact mY),(by intro v hv;cases hv),by omega⟩
  intro m a w hI;clear O I;obtain⟨i,xs,Av,cv,at1,I,O,hi,hxl,hat1,hq,hx0,rfl⟩:=hI;refine rC 2 I ?_;clear I a;refine aK 0 0 (aq rfl rfl) ?_ ?_
  ·intro h10;refine uO 8 ?_;intro a I;refine ja [5,7] (lq W (a6 b3 (.cells #[.slice Av xs.length cv,.slice none 0 0] 63)::cM 3 Av cv xs::a6 b2 (.cells #[.slice none 0 0,.slice none 0 0] 63)::L)) (by kernel_rfl) ?_;replace O:=O.drew;refine P1 0 [] I rfl (fun w=>(aa (I.ev rfl) cz)) ?_;clear I a;refine cP 1 [2] rfl (by exact⟨[_],O⟩) (fun w hT=>have O:=hT.sat;(ld rfl)) ?_;intro a I;refine aD 3 (by kernel_rfl) ?_;refine GD I rfl rfl gO rfl (cg _ _ _ r A c bs at1 1000000000 O (by omega) (by omega) (fun w s=>hR w s.drop.drop.drop)) ?_;rintro e w (⟨v14,at14,hn14,ha14,hv14,hw14,rfl,hS'⟩ | ⟨hn14,⟨older,rfl,ho⟩,at',er,hne,hS'⟩)
   rotate_left 1
   ·refine .inr ⟨_,rfl,?_⟩;refine rE 5 I ?_;clear I a;intro a I;refine db I ?_;clear O;have O:=hS';clear hS';refine .inr ⟨FR hn8 (dA (n:=v8-(i+1)) (by rw[hq,show v8-i=(v8-(i+1))+1 from by omega]) (CI hn14)),⟨older,rfl,ho⟩,at',er,hne,(((O.p 1).drop.p 1).drop.p 1).drop⟩
   clear O;have O:=hS';clear hS';refine .inl ⟨_,rfl,?_⟩;clear I a;intro a I;refine⟨.inr fun _=>(by exact⟨[_],O⟩),?_⟩;refine aD 4 (by kernel_rfl) ?_;refine eL I rfl rfl rfl aA jN rfl rfl rfl (by simp[Value.oneCell']) O ?_;clear I a O;intro A15 w O;intro a I;refine⟨.inr fun _=>(by exact⟨[_,_],O⟩),?_⟩;refine aD 5 (by kernel_rfl) ?_
   first | refine eA I rfl rfl rfl rfl aA jN rfl O (by exact O.rd.src aA (by simp[Value.oneCell'])) (by omega) (by omega) ?_ | refine eA I rfl rfl rfl rfl aA jN rfl (O.p 1) (by exact O.rd.src aA (by simp[Value.oneCell'])) (by omega) (by omega) ?_ | refine eA I rfl rfl rfl rfl aA jN rfl (O.p 2) (by exact O.rd.src aA (by simp[Value.oneCell'])) (by omega) (by omega) ?_ | refine eA I rfl rfl rfl rfl aA jN rfl (O.p 3) (by exact O.rd.src aA (by simp[Value.oneCell'])) (by omega) (by omega) ?_ | refine eA I rfl rfl rfl rfl aA jN rfl (O.p 4) (by first | exact O.rd.src aA (by simp[Value.oneCell']) | exact (O.p 1).rd.src aA (by simp[Value.oneCell']) | exact (O.p 2).rd.src aA (by simp[Value.oneCell']) | exact (O.p 3).rd.src aA (by simp[Value.oneCell']) | exact (O.p 4).rd.src aA (by simp[Value.oneCell']) | exact (O.p 5).rd.src aA (by simp[Value.oneCell']) | exact (O.p 6).rd.src aA (by simp[Value.oneCell'])) (by omega) (by omega) ?_ | refine eA I rfl rfl rfl rfl aA jN rfl (O.p 5) (by first | exact O.rd.src aA (by simp[Value.oneCell']) | exact (O.p 1).rd.src aA (by simp[Value.oneCell']) | exact (O.p 2).rd.src aA (by simp[Value.oneCell']) | exact (O.p 3).rd.src aA (by simp[Value.oneCell']) | exact (O.p 4).rd.src aA (by simp[Value.oneCell']) | exact (O.p 5).rd.src aA (by simp[Value.oneCell']) | exact (O.p 6).rd.src aA (by simp[Value.oneCell'])) (by omega) (by omega) ?_ | refine eA I rfl rfl rfl rfl aA jN rfl (O.p 6) (by first | exact O.rd.src aA (by simp[Value.oneCell']) | exact (O.p 1).rd.src aA (by simp[Value.oneCell']) | exact (O.p 2).rd.src aA (by simp[Value.oneCell']) | exact (O.p 3).rd.src aA (by simp[Value.oneCell']) | exact (O.p 4).rd.src aA (by simp[Value.oneCell']) | exact (O.p 5).rd.src aA (by simp[Value.oneCell']) | exact (O.p 6).rd.src aA (by simp[Value.oneCell'])) (by omega) (by omega) ?_
   clear I a O;intro A16 c16 w hc16 O;intro a I;refine⟨.inl rfl,?_⟩;refine P1 6 [] I rfl (fun w=>(aa (I.ev rfl) cz)) ?_;clear I a;intro a I;refine aD 7 (by kernel_rfl) ?_;refine HF (cs':=[_,_]) I rfl rfl rfl ik fQ rfl (O.p 3) rfl rfl ?_;clear O;intro w O;refine⟨.inl rfl,?_⟩;refine ah (by kernel_rfl) ?_ _;refine rE 3 I ?_;clear I a;refine u1 2 (ad rfl rfl) ?_;intro a I;replace I:=I.kp [0,2,3,8,9] rfl;rw[show v8-i=(v8-(i+1))+1 from (by omega)]at hq;have hq2:=mF hq (Cw hn14);rw[←fN xs (v14:Int)]at hq2;have el:xs.length+1=(xs++[(v14:Int)]).length:=by simp
   have hS2:=fW ((((O.p 4).p 4).p 2).p 3) el (cs':=(xs++[(v14:Int)]).map (Value.int .i64)) (by simp);rw[el]at hS2;refine⟨v8-(i+1),by omega,i+1,xs++[(v14:Int)],A16,c16,at14,I,(((((hS2.p 3).p 1).p 2).p 3).p 4).drop,by omega,by simp;omega,ha14,hq2,?_,rfl⟩;intro z hz;rcases List.mem_append.1 hz with hz | hz
   ·exact hx0 z hz
   ·simp at hz;subst hz;omega
  ·intro h10;obtain rfl:i=v8:=by omega
   intro a I;rw[Nat.sub_self]at hq;have hvec:=rh hq;refine rO 18 I ?_;clear I a;intro a I;refine dX I rfl zE rfl (gP _ _ _ r A c bs at1 3 O (by omega) (by omega) (fun w s=>hR w s.drop.drop.drop) (by decide) (by decide)) ?_;rintro e w (⟨v20,at20,hn20,ha20,hk20,rfl,hS'⟩ | ⟨hn20,⟨older,rfl,ho⟩,at',er,hne,hS'⟩)
   ·clear O;have O:=hS';clear hS';rw[show (3:Int).toNat=3 from rfl]at hk20;refine .inl ⟨_,rfl,?_⟩;clear I a;refine uO 3 ?_;intro a I;replace I:=I.kp [0,2,3,4,20,21] rfl;refine rC 1 I ?_;clear I a;intro a I
    refine wp_loop_ghost (fun (mm:Nat) a w=>∃(j:Nat) (ys:List aN) (Ac:Option Addr) (cc at2:Nat),Ag a 59 [(0,.pointer (some ⟨r,0,none⟩)),(2,.pointer (some ⟨b2,0,none⟩)),(3,.pointer (some ⟨b3,0,none⟩)),(4,.int .i64 ((cF ys.getLast?))),(20,.int .i64 ((v20:Nat):Int)),(21,.int .i64 ((j:Nat):Int))]∧Sat W w (gU r A c bs (at2:Int) true 0::a6 b3 (.cells #[.slice Av xs.length cv,.slice Ac ys.length cc] 63)::cM 3 Av cv xs::bH 219 Ac cc ys::a6 b2 (.cells #[.slice none 0 0,.slice none 0 0] 63)::L)∧(j≤v20)∧(ys.length=j)∧(at2≤bs.length)∧(fh (gD xs) v20 none (bs.drop at20)=(fh (gD xs) (v20-j) ys.getLast? (bs.drop at2)).map fun q=>(ys++q.1,q.2))∧(∀s∈ys,0≤s.rep∧s.rep<16∧0≤s.hi∧s.hi≤1000000000)∧mm=v20-j) v20 ?_ ?_
    ·replace I:=I.kp [0,2,3,4,20,21] rfl;exact⟨0,[],none,0,at20,I,((((((O.aX 219 3).p 4).p 1).p 4).p 4).p 4),(by omega),(by rfl),(by omega),(by exact mY),(by intro v hv;cases hv),by omega⟩
    intro m a w hI;clear O I;obtain⟨j,ys,Ac,cc,at2,I,O,hj,hyl,hat2,hq2,hy0,rfl⟩:=hI;refine rC 2 I ?_;clear I a;refine aK 0 0 (aq rfl rfl) ?_ ?_
    ·intro h22;obtain⟨hp0,hp1⟩:=FM hy0;refine uO 12 ?_;intro a I;refine dX I rfl gO rfl (cg _ _ _ r A c bs at2 16 O (by omega) (by omega) (fun w s=>hR w s.drop.drop.drop.drop)) ?_;rintro e w (⟨v25,at25,hn25,ha25,hv25,hw25,rfl,hS'⟩ | ⟨hn25,⟨older,rfl,ho⟩,at',er,hne,hS'⟩)
     ·clear O;have O:=hS';clear hS';refine .inl ⟨_,rfl,?_⟩;clear I a;refine u1 7 (ad rfl rfl) ?_;refine aK 0 0 (dH rfl rfl) ?_ ?_
      ·intro h28;refine uO 5 ?_;intro a I;refine dX I rfl lR rfl (cQ _ _ _ r A c bs at25 8 O (by omega) (by omega) (fun w s=>hR w s.drop.drop.drop.drop)) ?_;rintro e w ⟨⟨older,rfl,ho⟩,at',hS'⟩
       ·refine .inr ⟨_,rfl,?_⟩;refine rE 6 I ?_;clear I a;intro a I;refine db I ?_;clear O;have O:=hS';clear hS';refine .inr ⟨oJ hn8 hvec hn20 (dA (n:=v20-(j+1)) (by rw[hq2,show v20-j=(v20-(j+1))+1 from by omega]) (F3 hn25 (by omega))),⟨older,rfl,ho⟩,at',8,by decide,((((O.p 1).drop.p 1).drop.p 1).drop.p 1).drop⟩
      ·intro h28;refine uO 7 ?_;obtain⟨hm0,hm1⟩:=C7 hx0 hy0 (cF ys.getLast?+(v25:Int));refine u1 0 (aa rfl cz) ?_;refine u1 1 (ld rfl) ?_;refine u1 0 (aa rfl bX) ?_;refine u1 0 (ld rfl) ?_;refine uF rfl (sL _ Av cv xs _ Ac ys.length cc ys (O.p 2).rd (O.p 3).rd rfl (by omega) (by omega) hx0 (fun s hs=>by have:=hy0 s hs;omega) (by omega) (by omega)) ?_;rintro e w ⟨rfl,hT⟩;replace O:Sat _ _ _:=O.ag hT;clear hT;refine uO 1 ?_;intro a I;refine dX I rfl gO rfl (cg _ _ _ r A c bs at25 1000000000 O (by omega) (by omega) (fun w s=>hR w s.drop.drop.drop.drop)) ?_;rintro e w (⟨v38,at38,hn38,ha38,hv38,hw38,rfl,hS'⟩ | ⟨hn38,⟨older,rfl,ho⟩,at',er,hne,hS'⟩)
       ·clear O;have O:=hS';clear hS';refine .inl ⟨_,rfl,?_⟩;clear I a;refine u1 7 (ad rfl rfl) ?_;intro a I;refine dX I rfl gO rfl (cg _ _ _ r A c bs at38 1000000000 O (by omega) (by omega) (fun w s=>hR w s.drop.drop.drop.drop)) ?_;rintro e w (⟨v42,at42,hn42,ha42,hv42,hw42,rfl,hS'⟩ | ⟨hn42,⟨older,rfl,ho⟩,at',er,hne,hS'⟩)
        ·clear O;have O:=hS';clear hS';refine .inl ⟨_,rfl,?_⟩;clear I a;refine u1 7 (ad rfl rfl) ?_;refine aK 0 0 (dx rfl rfl) ?_ ?_
         ·intro h45;refine uO 5 ?_;intro a I;refine dX I rfl lR rfl (cQ _ _ _ r A c bs at42 8 O (by omega) (by omega) (fun w s=>hR w s.drop.drop.drop.drop)) ?_;rintro e w ⟨⟨older,rfl,ho⟩,at',hS'⟩
          ·refine .inr ⟨_,rfl,?_⟩;refine rE 6 I ?_;clear I a;intro a I;refine db I ?_;clear O;have O:=hS';clear hS';refine .inr ⟨oJ hn8 hvec hn20 (dA (n:=v20-(j+1)) (by rw[hq2,show v20-j=(v20-(j+1))+1 from by omega]) (FP hn25 hn38 hn42 (by omega))),⟨older,rfl,ho⟩,at',8,by decide,((((O.p 1).drop.p 1).drop.p 1).drop.p 1).drop⟩
         ·intro h45;refine uO 6 ?_;refine u1 0 (aa rfl bX) ?_;refine u1 3 (ld rfl) ?_;intro a I;refine o1 0 I (aM I rfl jw) ?_;clear I a;intro a I;refine jf (vss:=[[_,_,_]]) I rfl rfl dk o5 rfl rfl rfl (by simp) rfl O ?_;clear I a O;intro A54 w O;intro a I;refine dj I rfl rfl rfl dk o5 rfl (O.p 4) (O.rd.src dk (by simp[Value.oneCell'])) (by omega) (by omega) ?_;clear I a O;intro A55 c55 w hc55 O;refine u1 0 (aa rfl bX) ?_;intro a I;refine mf (cs':=[_,_]) I rfl rfl xj EU rfl (O.p 3) rfl rfl ?_;clear O;intro w O;refine rO 4 I ?_;clear I a;refine u1 2 (ad rfl rfl) ?_;intro a I;replace I:=I.kp [0,2,3,4,20,21] rfl;rw[show v20-j=(v20-(j+1))+1 from (by omega)]at hq2;have hq3:=mF hq2 (Fy hn25 (by omega) hn38 hn42 (by omega))
          rw[←fN ys (⟨cF ys.getLast?+(v25:Int),bt xs ys.getLast? (cF ys.getLast?+(v25:Int))+(v38:Int),bt xs ys.getLast? (cF ys.getLast?+(v25:Int))+(v38:Int)+(v42:Int)⟩:aN)]at hq3;have el:ys.length+1=(ys++[(⟨cF ys.getLast?+(v25:Int),bt xs ys.getLast? (cF ys.getLast?+(v25:Int))+(v38:Int),bt xs ys.getLast? (cF ys.getLast?+(v25:Int))+(v38:Int)+(v42:Int)⟩:aN)]).length:=by simp
          have hS2:=fW (((((O.p 5).p 5).p 5).p 3).p 4) el (cs':=(ys++[(⟨cF ys.getLast?+(v25:Int),bt xs ys.getLast? (cF ys.getLast?+(v25:Int))+(v38:Int),bt xs ys.getLast? (cF ys.getLast?+(v25:Int))+(v38:Int)+(v42:Int)⟩:aN)]).flatMap gm) (by rw[List.flatMap_append];rfl);rw[el]at hS2;rw[show cF ys.getLast?+(v25:Int)=cF (ys++[(⟨cF ys.getLast?+(v25:Int),bt xs ys.getLast? (cF ys.getLast?+(v25:Int))+(v38:Int),bt xs ys.getLast? (cF ys.getLast?+(v25:Int))+(v38:Int)+(v42:Int)⟩:aN)]).getLast? from by rw[fN];rfl]at I;refine⟨v20-(j+1),by omega,j+1,ys++[(⟨cF ys.getLast?+(v25:Int),bt xs ys.getLast? (cF ys.getLast?+(v25:Int))+(v38:Int),bt xs ys.getLast? (cF ys.getLast?+(v25:Int))+(v38:Int)+(v42:Int)⟩:aN)],A55,c55,at42,I,((((((hS2.p 4).p 1).p 4).p 3).p 4).p 5).drop,by omega,by simp;omega,ha42,hq3,?_,rfl⟩;intro z hz
          rcases List.mem_append.1 hz with hz | hz
          ·exact hy0 z hz
          ·simp only[List.mem_singleton]at hz;subst hz;exact⟨by dsimp only;omega,by dsimp only;omega,by dsimp only;omega,by dsimp only;omega⟩
        ·refine .inr ⟨_,rfl,?_⟩;refine rE 6 I ?_;clear I a;intro a I;refine db I ?_;clear O;have O:=hS';clear hS';refine .inr ⟨oJ hn8 hvec hn20 (dA (n:=v20-(j+1)) (by rw[hq2,show v20-j=(v20-(j+1))+1 from by omega]) (Gf hn25 hn38 hn42)),⟨older,rfl,ho⟩,at',er,hne,((((O.p 1).drop.p 1).drop.p 1).drop.p 1).drop⟩
       ·refine .inr ⟨_,rfl,?_⟩;refine rE 6 I ?_;clear I a;intro a I;refine db I ?_;clear O;have O:=hS';clear hS';refine .inr ⟨oJ hn8 hvec hn20 (dA (n:=v20-(j+1)) (by rw[hq2,show v20-j=(v20-(j+1))+1 from by omega]) (FJ hn25 hn38)),⟨older,rfl,ho⟩,at',er,hne,((((O.p 1).drop.p 1).drop.p 1).drop.p 1).drop⟩
     ·refine .inr ⟨_,rfl,?_⟩;refine rE 6 I ?_;clear I a;intro a I;refine db I ?_;clear O;have O:=hS';clear hS';refine .inr ⟨oJ hn8 hvec hn20 (dA (n:=v20-(j+1)) (by rw[hq2,show v20-j=(v20-(j+1))+1 from by omega]) (FV hn25)),⟨older,rfl,ho⟩,at',er,hne,((((O.p 1).drop.p 1).drop.p 1).drop.p 1).drop⟩
    ·intro h22;obtain rfl:j=v20:=by omega
     intro a I;rw[Nat.sub_self]at hq2;have hcl:=rh hq2;refine rO 11 I ?_;clear I a;refine u1 0 (lS (cs:=[_,_]) rfl) ?_;refine uW (vs:=[_,_]) (cs':=[_,_]) rfl rfl bo (O.p 4) ?_;clear O;intro w O;refine uO 3 ?_;intro a I;refine gN I rfl (de (cs:=[_,_]) I rfl fu bo (by exact O.aF (xs:=[_,_]) rfl)) ?_;refine .inl ⟨⟨Av,cv,Ac,cc,⟨xs,ys⟩⟩,at2,FE hn8 hvec hn20 hcl,hat2,by show ys.length≤_;omega,rfl,?_⟩;exact (O.drop.p 1).drop
   ·refine .inr ⟨_,rfl,?_⟩;refine rE 2 I ?_;clear I a;intro a I;refine db I ?_;clear O;have O:=hS';clear hS';refine .inr ⟨?_,⟨older,rfl,ho⟩,at',er,hne,(((O.p 1).drop.p 1).drop.p 1).drop⟩;rcases hn20 with h | ⟨k,rr,h,h2⟩
    ·exact Gd hn8 hvec h
    ·exact oJ hn8 hvec h (AU hx0 h2)
 ·refine .inr ⟨_,rfl,?_⟩;refine rE 2 I ?_;clear I a;intro a I;refine db I ?_;clear O;have O:=hS';clear hS';exact .inr ⟨Fv hn8,⟨older,rfl,ho⟩,at',er,hne,((O.p 1).drop.p 1).drop⟩
def jG (l:List UInt8):Option (List aR×List UInt8):=match bM 9223372036854775807 l with
 | none=>none
 | some (k,l1)=>fh me k none l1
def jI (l:List UInt8):Option (List bS×List UInt8):=match bM 9223372036854775807 l with
 | none=>none
 | some (k,l1)=>fh sS k none l1
theorem wD {l r:List UInt8}{xs:List aR}:jG l=some (xs,r)↔l=cI xs++r∧iU ot none xs∧xs.length≤9223372036854775807:=by
 unfold jG cI;constructor
 ·
  intro h
  split at h
  ·
   cases h
  ·
   rename_i k l1 e1;obtain⟨rfl,h1,h2⟩:=bD.1 e1;obtain⟨rfl,h3,rfl⟩:=(xQ.seq k none (fun q hq=>by cases hq) l1 xs r).1 h;exact⟨by rw[List.append_assoc];rfl,h3,h2⟩
 ·
  rintro ⟨rfl,h1,h2⟩;rw[List.append_assoc,bD.2 ⟨rfl,by omega,h2⟩];exact (xQ.seq _ none (fun q hq=>by cases hq) _ xs r).2 ⟨rfl,h1,rfl⟩
theorem rA {l r:List UInt8}{xs:List bS}:jI l=some (xs,r)↔l=bV xs++r∧iU EP none xs∧xs.length≤9223372036854775807:=by
 unfold jI bV;constructor
 ·
  intro h
  split at h
  ·
   cases h
  ·
   rename_i k l1 e1;obtain⟨rfl,h1,h2⟩:=bD.1 e1;obtain⟨rfl,h3,rfl⟩:=(ym.seq k none trivial l1 xs r).1 h;exact⟨by rw[List.append_assoc];rfl,h3,h2⟩
 ·
  rintro ⟨rfl,h1,h2⟩;rw[List.append_assoc,bD.2 ⟨rfl,by omega,h2⟩];exact (ym.seq _ none trivial _ xs r).2 ⟨rfl,h1,rfl⟩
theorem Fw {s:ByteArray}(h:mN s=true):1≤s.data.toList.length:=by
 unfold mN BW pF at h
 split at h
 ·
  simp at h
 ·
  omega
theorem C3 {xs:List aR}(h:cd xs=true):xs.length * 5≤(seqB mw none xs).length:=by
 have:∀(l:List aR) (p:Option aR),(∀e∈l,fS e=true)→l.length * 5≤(seqB mw p l).length:=by
  intro l
  induction l with
  | nil=>intro p _;simp
  | cons x l ih =>
    intro p hp;have h1:=ih (some x) fun e he=>hp e (by simp[he])
    have h2:=hp x (by simp);unfold fS at h2;simp only[Bool.and_eq_true]at h2;have h3:=Fw h2.1.1.2;have h4:=cm (x.rep-bC p).toNat;have h5:=cm (x.num-dM p x.rep).toNat;have h6:=cm x.cy.data.toList.length;have h7:=cm (x.qg-1).toNat;have h8:5≤(mw p x).length:=by unfold mw;simp only[List.length_append];omega
    rw[seqB,List.length_append,List.length_cons,Nat.add_mul];omega
 refine this xs none fun e he=>?_;obtain⟨i,hi⟩:=List.mem_iff_getElem?.1 he;have:=lH h i e hi;unfold eE at this;rw[Bool.and_eq_true]at this;exact this.1
theorem p4 (p:aJ):2+p.vec.length+3 * p.ab.length≤(cB p).length:=by
 unfold cB;have h1:=cm p.vec.length;have h2:=cm p.ab.length;have h3:=jA (g:=(ki 1000000000).g) (k:=1) (fun _ x=>cm x.toNat) p.vec none;have h4:=jA (g:=gX p.vec) (k:=3) (fun q x=>w6 _ q x) p.ab none;simp only[List.length_append];omega
theorem DP {r:bS}(h:fb r=true)(p:Option bS):4≤(ie p r).length:=by
 have h1:=p4 r.bB;have h2:=cm r.cy.data.toList.length
 have h3:1≤r.bB.vec.length+r.bB.ab.length:=by
  rcases Nat.eq_zero_or_pos (r.bB.vec.length+r.bB.ab.length) with h0 | h0
  ·
   have e1:r.bB.vec=[]:=List.eq_nil_of_length_eq_zero (by omega);have e2:r.bB.ab=[]:=List.eq_nil_of_length_eq_zero (by omega);have e3:r.bB=⟨[],[]⟩:=tm e1 e2;unfold fb at h;rw[e3,show ew ⟨[],[]⟩=true from by decide]at h;simp at h
  ·
   exact h0
 unfold ie;simp only[List.length_append];omega
theorem Du {xs:List bS}(h:cC xs=true):xs.length * 4≤(seqB ie none xs).length:=by
 have:∀(l:List bS) (p:Option bS),(∀e∈l,fb e=true)→l.length * 4≤(seqB ie p l).length:=by
  intro l
  induction l with
  | nil=>intro p _;simp
  | cons x l ih =>
    intro p hp;have h1:=ih (some x) fun e he=>hp e (by simp[he])
    have h2:=DP (hp x (by simp)) p;rw[seqB,List.length_append,List.length_cons,Nat.add_mul];omega
 exact this xs none (fA h)
theorem zS (xs:List bS):cO (xs.map bS.bB)≤(bV xs).length:=by
 have:∀(l:List bS) (p:Option bS),cO (l.map bS.bB)≤(seqB ie p l).length:=by
  intro l
  induction l with
  | nil=>intro p;simp[cO]
  | cons x l ih =>
    intro p;have h1:=ih (some x);have h2:=p4 x.bB;have h3:(cB x.bB).length≤(ie p x).length:=by unfold ie;simp only[List.length_append];omega
    have h6:cO ((x::l).map bS.bB)=x.bB.ab.length+1+cO (l.map bS.bB):=by unfold cO;simp
    rw[seqB,List.length_append,h6];omega
 unfold bV;rw[List.length_append];have:=this xs none;omega
theorem FU {l:List UInt8}(h:bM 9223372036854775807 l=none):jG l=none:=by unfold jG;rw[h]
theorem hP {l l1:List UInt8}{k:Nat}{o:Option (List aR×List UInt8)}(h:bM 9223372036854775807 l=some (k,l1))(h2:fh me k none l1=o):jG l=o:=by unfold jG;rw[h];exact h2
theorem Bh {l l1:List UInt8}{k:Nat}(h:bM 9223372036854775807 l=some (k,l1))(h2:l1.length<k * 5):∀xs r,jG l=some (xs,r)→cd xs=false:=fun xs r hx=>by
 rw[hP h rfl]at hx;obtain⟨rfl,_,rfl⟩:=(xQ.seq k none (fun q hq=>by cases hq) l1 xs r).1 hx;rw[Bool.eq_false_iff];intro hb;have h3:xs.length * 5≤(seqB xQ.g none xs).length:=C3 hb;rw[List.length_append]at h2;omega
theorem FQ {l:List UInt8}(h:bM 9223372036854775807 l=none):jI l=none:=by unfold jI;rw[h]
theorem sY {l l1:List UInt8}{k:Nat}{o:Option (List bS×List UInt8)}(h:bM 9223372036854775807 l=some (k,l1))(h2:fh sS k none l1=o):jI l=o:=by unfold jI;rw[h];exact h2
theorem Ak {l l1:List UInt8}{k:Nat}(h:bM 9223372036854775807 l=some (k,l1))(h2:l1.length<k * 4):∀xs r,jI l=some (xs,r)→cC xs=false:=fun xs r hx=>by
 rw[sY h rfl]at hx;obtain⟨rfl,_,rfl⟩:=(ym.seq k none trivial l1 xs r).1 hx;rw[Bool.eq_false_iff];intro hb;have h3:xs.length * 4≤(seqB ym.g none xs).length:=Du hb;rw[List.length_append]at h2;omega
theorem eS {α β:Type}{o:Option (α×β)}{f:α→Bool}(h:o=none):∀xs r,o=some (xs,r)→f xs=false:=fun xs r hx=>by rw[h]at hx;cases hx
theorem Hj {p:Option aR}{l:List UInt8}(h:bM 16 l=none):me p l=none:=by unfold me;rw[h]
theorem EB {p:Option aR}{l l1:List UInt8}{st:Nat}(h:bM 16 l=some (st,l1))(h2:bM 1000000000 l1=none):me p l=none:=by unfold me;rw[h];simp only;rw[h2]
theorem z8 {p:Option aR}{l l1 l2:List UInt8}{st sk:Nat}(h:bM 16 l=some (st,l1))(h2:bM 1000000000 l1=some (sk,l2))(h3:16≤bC p+st∨1000000000<dM p (bC p+st)+sk):me p l=none:=by unfold me;rw[h];simp only;rw[h2];simp only;rw[if_pos h3]
theorem DJ {p:Option aR}{l l1 l2:List UInt8}{st sk:Nat}(h:bM 16 l=some (st,l1))(h2:bM 1000000000 l1=some (sk,l2))(h4:dh 24 l2=none):me p l=none:=by
 unfold me;rw[h];simp only;rw[h2];simp only
 split
 ·
  rfl
 ·
  rw[h4]
theorem D5 {p:Option aR}{l l1 l2 l3 t:List UInt8}{st sk:Nat}(h:bM 16 l=some (st,l1))(h2:bM 1000000000 l1=some (sk,l2))(h4:dh 24 l2=some (t,l3))(h5:bM 1000000 l3=none):me p l=none:=by
 unfold me;rw[h];simp only;rw[h2];simp only
 split
 ·
  rfl
 ·
  rw[h4];simp only;rw[h5]
theorem ES {p:Option aR}{l l1 l2 l3 l4 t:List UInt8}{st sk q:Nat}(h:bM 16 l=some (st,l1))(h2:bM 1000000000 l1=some (sk,l2))(h3:¬(16≤bC p+st∨1000000000<dM p (bC p+st)+sk))(h4:dh 24 l2=some (t,l3))(h5:bM 1000000 l3=some (q,l4)):me p l=some (⟨bC p+st,dM p (bC p+st)+sk,str t,q+1⟩,l4):=by
 unfold me;rw[h];simp only;rw[h2];simp only;rw[if_neg h3,h4];simp only;rw[h5]
theorem Hr {p:Option aR}{st:Nat}(h:0<st):dM p (bC p+st)=1:=mb (by omega)
theorem HI {p:Option aR}{st:Nat}(h:¬(0:Int)<(st:Int)):dM p (bC p+st)=n0 p:=k8 (by omega)
theorem E6 {xs:List aR}(h:∀e∈xs,0≤e.rep∧e.rep<16∧1≤e.num∧e.num≤1000000000):0≤bC xs.getLast?∧bC xs.getLast? < 16∧1≤n0 xs.getLast?∧n0 xs.getLast?≤1000000001:=by
 unfold bC n0;cases e:xs.getLast? with
 | none=>simp
 | some q=>have:=h q (List.mem_of_getLast? e);simp only;omega
theorem Hl {p:Option bS}{l:List UInt8}(h:dh 24 l=none):sS p l=none:=by unfold sS;rw[h]
theorem HB {p:Option bS}{l l1 t:List UInt8}(h:dh 24 l=some (t,l1))(h2:fp l1=none):sS p l=none:=by unfold sS;rw[h];simp only;rw[h2]
theorem Ha {p:Option bS}{l l1 l2 t:List UInt8}{q:aJ}(h:dh 24 l=some (t,l1))(h2:fp l1=some (q,l2)):sS p l=some (⟨str t,q⟩,l2):=by unfold sS;rw[h];simp only;rw[h2]
theorem rP (W w:World)(L:List As)(r:Nat)(A:Option Addr)(c:Nat)(bs:List UInt8)(at_:Nat)(O:Sat W w (gU r A c bs at_ true 0::L))(hat:at_≤bs.length)(hb:bs.length≤1000000000000)(hR:∀w,Sat W w L→Rd w 1 (.slice A bs.length c) bs.length (bs.map ai)):Calls Tryz.prog 381 #[.pointer (some ⟨r,0,none⟩)] w fun e w'=>(∃(Ae:Option Addr) (ce:Nat) (xs:List aR) (at':Nat),jG (bs.drop at_)=some (xs,bs.drop at')∧at'≤bs.length∧xs.length * 5≤bs.length∧e=.returned (.slice Ae (xs).length ce)∧Sat W w' (gU r A c bs (at':Int) true 0::iX 216 Ae ce xs::L))∨((∀xs rr,jG (bs.drop at_)=some (xs,rr)→cd xs=false)∧xv (.iface 271 (.agg #[.pointer (some ⟨r,0,none⟩)])) e∧∃at' er:Int,er≠0∧Sat W w' (gU r A c bs at' true er::L)):=by
 refine bP Tryz.func381 [0] ?_;refine uC 20 ?_;intro a I;refine dX I rfl zE rfl (gP _ _ _ r A c bs at_ 5 O (by omega) (by omega) hR (by decide) (by decide)) ?_;rintro e w (⟨v10,at10,hn10,ha10,hk10,rfl,hS'⟩ | ⟨hn10,⟨older,rfl,ho⟩,at',er,hne,hS'⟩)
 ·clear O;have O:=hS';clear hS';rw[show (5:Int).toNat=5 from rfl]at hk10;refine .inl ⟨_,rfl,?_⟩;clear I a;refine uO 4 ?_;intro a I;refine wp_loop_ghost (fun (mm:Nat) a w=>∃(i:Nat) (xs:List aR) (Ae:Option Addr) (ce at1:Nat),Ag a 52 [(0,.pointer (some ⟨r,0,none⟩)),(3,.slice Ae (xs).length ce),(4,.int .i64 ((bC xs.getLast?))),(5,.int .i64 ((n0 xs.getLast?))),(10,.int .i64 ((v10:Nat):Int)),(11,.int .i64 ((i:Nat):Int))]∧Sat W w (gU r A c bs (at1:Int) true 0::iX 216 Ae ce xs::L)∧(i≤v10)∧(xs.length=i)∧(at1≤bs.length)∧(fh me v10 none (bs.drop at10)=(fh me (v10-i) xs.getLast? (bs.drop at1)).map fun q=>(xs++q.1,q.2))∧(∀e∈xs,0≤e.rep∧e.rep<16∧1≤e.num∧e.num≤1000000000)∧mm=v10-i) v10 ?_ ?_
  ·replace I:=I.kp [0,3,4,5,10,11] rfl;exact⟨0,[],none,0,at10,I,((O.aX 216 4).p 1),(by omega),(by rfl),(by omega),(by exact mY),(by intro v hv;cases hv),by omega⟩
  intro m a w hI;clear O I;obtain⟨i,xs,Ae,ce,at1,I,O,hi,hxl,hat1,hq,hx0,rfl⟩:=hI;refine rC 2 I ?_;clear I a;refine aK 0 0 (aq rfl rfl) ?_ ?_
  ·intro h12;obtain⟨hp0,hp1,hp2,hp3⟩:=E6 hx0;refine uO 11 ?_;intro a I;refine dX I rfl gO rfl (cg _ _ _ r A c bs at1 16 O (by omega) (by omega) (fun w s=>hR w s.drop)) ?_;rintro e w (⟨v14,at14,hn14,ha14,hv14,hw14,rfl,hS'⟩ | ⟨hn14,⟨older,rfl,ho⟩,at',er,hne,hS'⟩)
   ·clear O;have O:=hS';clear hS';refine .inl ⟨_,rfl,?_⟩;clear I a;refine uO 7 ?_;refine aK 0 0 (dx rfl rfl) ?_ ?_
    ·intro h16;have hnx:dM xs.getLast? (bC xs.getLast?+(v14:Int))=1:=Hr (by omega);refine uO 6 ?_;refine u1 9 (ad rfl rfl) ?_;intro a I;refine dX I rfl gO rfl (cg _ _ _ r A c bs at14 1000000000 O (by omega) (by omega) (fun w s=>hR w s.drop)) ?_;rintro e w (⟨v23,at23,hn23,ha23,hv23,hw23,rfl,hS'⟩ | ⟨hn23,⟨older,rfl,ho⟩,at',er,hne,hS'⟩)
     ·clear O;have O:=hS';clear hS';refine .inl ⟨_,rfl,?_⟩;clear I a;refine u1 0 (ad rfl rfl) ?_;intro a I;refine o1 0 I (aM I rfl wh) ?_;clear I a;refine uN Bw O ?_;clear O;intro b7 w O;refine uW (vs:=[_,_]) (cs':=[_,_]) rfl rfl gW O ?_;clear O;intro w O;refine uO 5 ?_;refine u1 0 (aa rfl bu) ?_;refine u1 0 (ld rfl) ?_;refine aK 0 0 (dH rfl rfl) ?_ ?_
      ·intro h28;refine uO 10 ?_;intro a I;refine dX I rfl lR rfl (cQ _ _ _ r A c bs at23 8 (O.p 1) (by omega) (by omega) (fun w s=>hR w s.drop.drop)) ?_;rintro e w ⟨⟨older,rfl,ho⟩,at',hS'⟩
       ·refine .inr ⟨_,rfl,?_⟩;refine rE 6 I ?_;clear I a;intro a I;refine db I ?_;clear O;have O:=hS';clear hS';refine .inr ⟨eS (hP hn10 (dA (n:=v10-(i+1)) (by rw[hq,show v10-i=(v10-(i+1))+1 from by omega]) (z8 hn14 hn23 (by rw[hnx];omega)))),⟨older,rfl,ho⟩,at',8,by decide,((O.p 1).drop.p 1).drop⟩
      ·intro h28;refine uO 1 ?_;refine u1 0 (aa rfl bN) ?_;refine u1 0 (ld rfl) ?_;refine aK 0 0 (dx rfl rfl) ?_ ?_
       ·intro h32;refine uO 6 ?_;intro a I;refine dX I rfl lR rfl (cQ _ _ _ r A c bs at23 8 (O.p 1) (by omega) (by omega) (fun w s=>hR w s.drop.drop)) ?_;rintro e w ⟨⟨older,rfl,ho⟩,at',hS'⟩
        ·refine .inr ⟨_,rfl,?_⟩;refine rE 6 I ?_;clear I a;intro a I;refine db I ?_;clear O;have O:=hS';clear hS';refine .inr ⟨eS (hP hn10 (dA (n:=v10-(i+1)) (by rw[hq,show v10-i=(v10-(i+1))+1 from by omega]) (z8 hn14 hn23 (by rw[hnx];omega)))),⟨older,rfl,ho⟩,at',8,by decide,((O.p 1).drop.p 1).drop⟩
       ·intro h32;refine uO 9 ?_;intro a I;refine dX I rfl EV rfl (nk _ _ _ r A c bs at23 24 (O.p 1) (by omega) (by omega) (fun w s=>hR w s.drop.drop)) ?_;rintro e w (⟨s37,at37,hn37,ha37,rfl,hS'⟩ | ⟨hn37,⟨older,rfl,ho⟩,at',er,hne,hS'⟩)
        ·clear O;have O:=hS';clear hS';refine .inl ⟨_,rfl,?_⟩;clear I a;refine uO 4 ?_;intro a I;refine ja [8] (lq W (a6 b7 (.cells #[.int .i64 (bC xs.getLast?+(v14:Int)),.int .i64 (1+(v23:Int))] 214)::iX 216 Ae ce xs::L)) (by kernel_rfl) ?_;replace O:=O.drew;refine rX [0] I ?_;clear I a;refine cP 1 [2,3] rfl (by exact⟨[_],O⟩) (fun w hT=>have O:=hT.sat;(lS (cs:=[_,_]) rfl)) ?_;intro a I;refine aD 4 (by kernel_rfl) ?_;refine GD I rfl rfl gO rfl (cg _ _ _ r A c bs at37 1000000 O (by omega) (by omega) (fun w s=>hR w s.drop.drop)) ?_;rintro e w (⟨v42,at42,hn42,ha42,hv42,hw42,rfl,hS'⟩ | ⟨hn42,⟨older,rfl,ho⟩,at',er,hne,hS'⟩)
         rotate_left 1
         ·refine .inr ⟨_,rfl,?_⟩;refine rE 6 I ?_;clear I a;intro a I;refine db I ?_;clear O;have O:=hS';clear hS';refine .inr ⟨eS (hP hn10 (dA (n:=v10-(i+1)) (by rw[hq,show v10-i=(v10-(i+1))+1 from by omega]) (D5 hn14 hn23 hn37 hn42))),⟨older,rfl,ho⟩,at',er,hne,((O.p 1).drop.p 1).drop⟩
         clear O;have O:=hS';clear hS';refine .inl ⟨_,rfl,?_⟩;clear I a;intro a I;refine⟨.inr fun _=>(by exact⟨[_],O⟩),?_⟩;refine P1 5 [] I rfl (fun w=>(xM (I.ev rfl) (I.ev rfl) (by omega) (by omega))) ?_;clear I a;intro a I;refine P1 6 [] I rfl (fun w=>(aM I rfl sI)) ?_;clear I a;intro a I;refine aD 7 (by kernel_rfl) ?_;refine vB (vss:=[[_,_,_,_]]) I rfl rfl rfl bA iY rfl rfl rfl (by simp) rfl O ?_;clear I a O;intro A45 w O;intro a I;refine⟨.inr fun _=>(by exact⟨[_,_],O⟩),?_⟩;refine aD 8 (by kernel_rfl) ?_
         first | refine eA I rfl rfl rfl rfl bA iY rfl O (by exact O.rd.src bA (by simp[Value.oneCell'])) (by omega) (by omega) ?_ | refine eA I rfl rfl rfl rfl bA iY rfl (O.p 1) (by exact O.rd.src bA (by simp[Value.oneCell'])) (by omega) (by omega) ?_ | refine eA I rfl rfl rfl rfl bA iY rfl (O.p 2) (by exact O.rd.src bA (by simp[Value.oneCell'])) (by omega) (by omega) ?_ | refine eA I rfl rfl rfl rfl bA iY rfl (O.p 3) (by exact O.rd.src bA (by simp[Value.oneCell'])) (by omega) (by omega) ?_ | refine eA I rfl rfl rfl rfl bA iY rfl (O.p 4) (by first | exact O.rd.src bA (by simp[Value.oneCell']) | exact (O.p 1).rd.src bA (by simp[Value.oneCell']) | exact (O.p 2).rd.src bA (by simp[Value.oneCell']) | exact (O.p 3).rd.src bA (by simp[Value.oneCell']) | exact (O.p 4).rd.src bA (by simp[Value.oneCell']) | exact (O.p 5).rd.src bA (by simp[Value.oneCell']) | exact (O.p 6).rd.src bA (by simp[Value.oneCell'])) (by omega) (by omega) ?_ | refine eA I rfl rfl rfl rfl bA iY rfl (O.p 5) (by first | exact O.rd.src bA (by simp[Value.oneCell']) | exact (O.p 1).rd.src bA (by simp[Value.oneCell']) | exact (O.p 2).rd.src bA (by simp[Value.oneCell']) | exact (O.p 3).rd.src bA (by simp[Value.oneCell']) | exact (O.p 4).rd.src bA (by simp[Value.oneCell']) | exact (O.p 5).rd.src bA (by simp[Value.oneCell']) | exact (O.p 6).rd.src bA (by simp[Value.oneCell'])) (by omega) (by omega) ?_ | refine eA I rfl rfl rfl rfl bA iY rfl (O.p 6) (by first | exact O.rd.src bA (by simp[Value.oneCell']) | exact (O.p 1).rd.src bA (by simp[Value.oneCell']) | exact (O.p 2).rd.src bA (by simp[Value.oneCell']) | exact (O.p 3).rd.src bA (by simp[Value.oneCell']) | exact (O.p 4).rd.src bA (by simp[Value.oneCell']) | exact (O.p 5).rd.src bA (by simp[Value.oneCell']) | exact (O.p 6).rd.src bA (by simp[Value.oneCell'])) (by omega) (by omega) ?_
         clear I a O;intro A46 c46 w hc46 O;intro a I;refine⟨.inl rfl,?_⟩;refine rX [9] I ?_;clear I a;intro a I;refine ah (by kernel_rfl) ?_ _;refine rE 2 I ?_;clear I a;refine u1 0 (aa rfl bN) ?_;refine u1 0 (ld rfl) ?_;refine u1 5 (ad rfl rfl) ?_;refine u1 2 (ad rfl rfl) ?_;intro a I;replace I:=I.kp [0,3,4,5,10,11] rfl;rw[show v10-i=(v10-(i+1))+1 from (by omega)]at hq
         have he:me xs.getLast? (bs.drop at1)=some ((⟨bC xs.getLast?+(v14:Int),1+(v23:Int),str s37,(v42:Int)+1⟩:aR),bs.drop at42):=by
          rw[ES hn14 hn23 (by rw[hnx];omega) hn37 hn42,hnx]
         have hq2:=mF hq he;rw[←fN xs (⟨bC xs.getLast?+(v14:Int),1+(v23:Int),str s37,(v42:Int)+1⟩:aR)]at hq2;have el:xs.length+1=(xs++[(⟨bC xs.getLast?+(v14:Int),1+(v23:Int),str s37,(v42:Int)+1⟩:aR)]).length:=by simp
         have hS2:=fW O el (cs':=(xs++[(⟨bC xs.getLast?+(v14:Int),1+(v23:Int),str s37,(v42:Int)+1⟩:aR)]).flatMap mr) (by rw[List.flatMap_append];rfl);have ea:bC xs.getLast?+(v14:Int)=bC (xs++[(⟨bC xs.getLast?+(v14:Int),1+(v23:Int),str s37,(v42:Int)+1⟩:aR)]).getLast?:=by rw[fN];rfl
         have eb:1+(v23:Int)+1=n0 (xs++[(⟨bC xs.getLast?+(v14:Int),1+(v23:Int),str s37,(v42:Int)+1⟩:aR)]).getLast?:=by rw[fN];rfl
         rw[ea,eb]at I;rw[el]at I;refine⟨v10-(i+1),by omega,i+1,xs++[(⟨bC xs.getLast?+(v14:Int),1+(v23:Int),str s37,(v42:Int)+1⟩:aR)],A46,c46,at42,I,(((hS2.p 2).p 3).p 3).drop.drop,by omega,by simp;omega,ha42,hq2,?_,rfl⟩;intro z hz;rcases List.mem_append.1 hz with hz | hz
         ·exact hx0 z hz
         ·simp only[List.mem_singleton]at hz;subst hz;exact⟨by dsimp only;omega,by dsimp only;omega,by dsimp only;omega,by dsimp only;omega⟩
        ·refine .inr ⟨_,rfl,?_⟩;refine rE 6 I ?_;clear I a;intro a I;refine db I ?_;clear O;have O:=hS';clear hS';refine .inr ⟨eS (hP hn10 (dA (n:=v10-(i+1)) (by rw[hq,show v10-i=(v10-(i+1))+1 from by omega]) (DJ hn14 hn23 hn37))),⟨older,rfl,ho⟩,at',er,hne,((O.p 1).drop.p 1).drop⟩
     ·refine .inr ⟨_,rfl,?_⟩;refine rE 6 I ?_;clear I a;intro a I;refine db I ?_;clear O;have O:=hS';clear hS';refine .inr ⟨eS (hP hn10 (dA (n:=v10-(i+1)) (by rw[hq,show v10-i=(v10-(i+1))+1 from by omega]) (EB hn14 hn23))),⟨older,rfl,ho⟩,at',er,hne,(O.p 1).drop⟩
    ·intro h16;have hnx:dM xs.getLast? (bC xs.getLast?+(v14:Int))=n0 xs.getLast?:=HI h16;refine uO 10 ?_;intro a I;refine dX I rfl gO rfl (cg _ _ _ r A c bs at14 1000000000 O (by omega) (by omega) (fun w s=>hR w s.drop)) ?_;rintro e w (⟨v23,at23,hn23,ha23,hv23,hw23,rfl,hS'⟩ | ⟨hn23,⟨older,rfl,ho⟩,at',er,hne,hS'⟩)
     ·clear O;have O:=hS';clear hS';refine .inl ⟨_,rfl,?_⟩;clear I a;refine u1 0 (ad rfl rfl) ?_;intro a I;refine o1 0 I (aM I rfl wh) ?_;clear I a;refine uN Bw O ?_;clear O;intro b7 w O;refine uW (vs:=[_,_]) (cs':=[_,_]) rfl rfl gW O ?_;clear O;intro w O;refine uO 5 ?_;refine u1 0 (aa rfl bu) ?_;refine u1 0 (ld rfl) ?_;refine aK 0 0 (dH rfl rfl) ?_ ?_
      ·intro h28;intro a I;exfalso;omega
      ·intro h28;refine uO 1 ?_;refine u1 0 (aa rfl bN) ?_;refine u1 0 (ld rfl) ?_;refine aK 0 0 (dx rfl rfl) ?_ ?_
       ·intro h32;refine uO 6 ?_;intro a I;refine dX I rfl lR rfl (cQ _ _ _ r A c bs at23 8 (O.p 1) (by omega) (by omega) (fun w s=>hR w s.drop.drop)) ?_;rintro e w ⟨⟨older,rfl,ho⟩,at',hS'⟩
        ·refine .inr ⟨_,rfl,?_⟩;refine rE 6 I ?_;clear I a;intro a I;refine db I ?_;clear O;have O:=hS';clear hS';refine .inr ⟨eS (hP hn10 (dA (n:=v10-(i+1)) (by rw[hq,show v10-i=(v10-(i+1))+1 from by omega]) (z8 hn14 hn23 (by rw[hnx];omega)))),⟨older,rfl,ho⟩,at',8,by decide,((O.p 1).drop.p 1).drop⟩
       ·intro h32;refine uO 9 ?_;intro a I;refine dX I rfl EV rfl (nk _ _ _ r A c bs at23 24 (O.p 1) (by omega) (by omega) (fun w s=>hR w s.drop.drop)) ?_;rintro e w (⟨s37,at37,hn37,ha37,rfl,hS'⟩ | ⟨hn37,⟨older,rfl,ho⟩,at',er,hne,hS'⟩)
        ·clear O;have O:=hS';clear hS';refine .inl ⟨_,rfl,?_⟩;clear I a;refine uO 4 ?_;intro a I;refine ja [8] (lq W (a6 b7 (.cells #[.int .i64 (bC xs.getLast?),.int .i64 (n0 xs.getLast?+(v23:Int))] 214)::iX 216 Ae ce xs::L)) (by kernel_rfl) ?_;replace O:=O.drew;refine rX [0] I ?_;clear I a;refine cP 1 [2,3] rfl (by exact⟨[_],O⟩) (fun w hT=>have O:=hT.sat;(lS (cs:=[_,_]) rfl)) ?_;intro a I;refine aD 4 (by kernel_rfl) ?_;refine GD I rfl rfl gO rfl (cg _ _ _ r A c bs at37 1000000 O (by omega) (by omega) (fun w s=>hR w s.drop.drop)) ?_;rintro e w (⟨v42,at42,hn42,ha42,hv42,hw42,rfl,hS'⟩ | ⟨hn42,⟨older,rfl,ho⟩,at',er,hne,hS'⟩)
         rotate_left 1
         ·refine .inr ⟨_,rfl,?_⟩;refine rE 6 I ?_;clear I a;intro a I;refine db I ?_;clear O;have O:=hS';clear hS';refine .inr ⟨eS (hP hn10 (dA (n:=v10-(i+1)) (by rw[hq,show v10-i=(v10-(i+1))+1 from by omega]) (D5 hn14 hn23 hn37 hn42))),⟨older,rfl,ho⟩,at',er,hne,((O.p 1).drop.p 1).drop⟩
         clear O;have O:=hS';clear hS';refine .inl ⟨_,rfl,?_⟩;clear I a;intro a I;refine⟨.inr fun _=>(by exact⟨[_],O⟩),?_⟩;refine P1 5 [] I rfl (fun w=>(xM (I.ev rfl) (I.ev rfl) (by omega) (by omega))) ?_;clear I a;intro a I;refine P1 6 [] I rfl (fun w=>(aM I rfl sI)) ?_;clear I a;intro a I;refine aD 7 (by kernel_rfl) ?_;refine vB (vss:=[[_,_,_,_]]) I rfl rfl rfl bA iY rfl rfl rfl (by simp) rfl O ?_;clear I a O;intro A45 w O;intro a I;refine⟨.inr fun _=>(by exact⟨[_,_],O⟩),?_⟩;refine aD 8 (by kernel_rfl) ?_
         first | refine eA I rfl rfl rfl rfl bA iY rfl O (by exact O.rd.src bA (by simp[Value.oneCell'])) (by omega) (by omega) ?_ | refine eA I rfl rfl rfl rfl bA iY rfl (O.p 1) (by exact O.rd.src bA (by simp[Value.oneCell'])) (by omega) (by omega) ?_ | refine eA I rfl rfl rfl rfl bA iY rfl (O.p 2) (by exact O.rd.src bA (by simp[Value.oneCell'])) (by omega) (by omega) ?_ | refine eA I rfl rfl rfl rfl bA iY rfl (O.p 3) (by exact O.rd.src bA (by simp[Value.oneCell'])) (by omega) (by omega) ?_ | refine eA I rfl rfl rfl rfl bA iY rfl (O.p 4) (by first | exact O.rd.src bA (by simp[Value.oneCell']) | exact (O.p 1).rd.src bA (by simp[Value.oneCell']) | exact (O.p 2).rd.src bA (by simp[Value.oneCell']) | exact (O.p 3).rd.src bA (by simp[Value.oneCell']) | exact (O.p 4).rd.src bA (by simp[Value.oneCell']) | exact (O.p 5).rd.src bA (by simp[Value.oneCell']) | exact (O.p 6).rd.src bA (by simp[Value.oneCell'])) (by omega) (by omega) ?_ | refine eA I rfl rfl rfl rfl bA iY rfl (O.p 5) (by first | exact O.rd.src bA (by simp[Value.oneCell']) | exact (O.p 1).rd.src bA (by simp[Value.oneCell']) | exact (O.p 2).rd.src bA (by simp[Value.oneCell']) | exact (O.p 3).rd.src bA (by simp[Value.oneCell']) | exact (O.p 4).rd.src bA (by simp[Value.oneCell']) | exact (O.p 5).rd.src bA (by simp[Value.oneCell']) | exact (O.p 6).rd.src bA (by simp[Value.oneCell'])) (by omega) (by omega) ?_ | refine eA I rfl rfl rfl rfl bA iY rfl (O.p 6) (by first | exact O.rd.src bA (by simp[Value.oneCell']) | exact (O.p 1).rd.src bA (by simp[Value.oneCell']) | exact (O.p 2).rd.src bA (by simp[Value.oneCell']) | exact (O.p 3).rd.src bA (by simp[Value.oneCell']) | exact (O.p 4).rd.src bA (by simp[Value.oneCell']) | exact (O.p 5).rd.src bA (by simp[Value.oneCell']) | exact (O.p 6).rd.src bA (by simp[Value.oneCell'])) (by omega) (by omega) ?_
         clear I a O;intro A46 c46 w hc46 O;intro a I;refine⟨.inl rfl,?_⟩;refine rX [9] I ?_;clear I a;intro a I;refine ah (by kernel_rfl) ?_ _;refine rE 2 I ?_;clear I a;refine u1 0 (aa rfl bN) ?_;refine u1 0 (ld rfl) ?_;refine u1 5 (ad rfl rfl) ?_;refine u1 2 (ad rfl rfl) ?_;intro a I;replace I:=I.kp [0,3,4,5,10,11] rfl;rw[show v10-i=(v10-(i+1))+1 from (by omega)]at hq
         have he:me xs.getLast? (bs.drop at1)=some ((⟨bC xs.getLast?,n0 xs.getLast?+(v23:Int),str s37,(v42:Int)+1⟩:aR),bs.drop at42):=by
          rw[ES hn14 hn23 (by rw[hnx];omega) hn37 hn42,hnx];rw[show bC xs.getLast?+(v14:Int)=bC xs.getLast? from by omega]
         have hq2:=mF hq he;rw[←fN xs (⟨bC xs.getLast?,n0 xs.getLast?+(v23:Int),str s37,(v42:Int)+1⟩:aR)]at hq2;have el:xs.length+1=(xs++[(⟨bC xs.getLast?,n0 xs.getLast?+(v23:Int),str s37,(v42:Int)+1⟩:aR)]).length:=by simp
         have hS2:=fW O el (cs':=(xs++[(⟨bC xs.getLast?,n0 xs.getLast?+(v23:Int),str s37,(v42:Int)+1⟩:aR)]).flatMap mr) (by rw[List.flatMap_append];rfl);have ea:bC xs.getLast?=bC (xs++[(⟨bC xs.getLast?,n0 xs.getLast?+(v23:Int),str s37,(v42:Int)+1⟩:aR)]).getLast?:=by rw[fN];rfl
         have eb:n0 xs.getLast?+(v23:Int)+1=n0 (xs++[(⟨bC xs.getLast?,n0 xs.getLast?+(v23:Int),str s37,(v42:Int)+1⟩:aR)]).getLast?:=by rw[fN];rfl
         rw[ea,eb]at I;rw[el]at I;refine⟨v10-(i+1),by omega,i+1,xs++[(⟨bC xs.getLast?,n0 xs.getLast?+(v23:Int),str s37,(v42:Int)+1⟩:aR)],A46,c46,at42,I,(((hS2.p 2).p 3).p 3).drop.drop,by omega,by simp;omega,ha42,hq2,?_,rfl⟩;intro z hz;rcases List.mem_append.1 hz with hz | hz
         ·exact hx0 z hz
         ·simp only[List.mem_singleton]at hz;subst hz;exact⟨by dsimp only;omega,by dsimp only;omega,by dsimp only;omega,by dsimp only;omega⟩
        ·refine .inr ⟨_,rfl,?_⟩;refine rE 6 I ?_;clear I a;intro a I;refine db I ?_;clear O;have O:=hS';clear hS';refine .inr ⟨eS (hP hn10 (dA (n:=v10-(i+1)) (by rw[hq,show v10-i=(v10-(i+1))+1 from by omega]) (DJ hn14 hn23 hn37))),⟨older,rfl,ho⟩,at',er,hne,((O.p 1).drop.p 1).drop⟩
     ·refine .inr ⟨_,rfl,?_⟩;refine rE 6 I ?_;clear I a;intro a I;refine db I ?_;clear O;have O:=hS';clear hS';refine .inr ⟨eS (hP hn10 (dA (n:=v10-(i+1)) (by rw[hq,show v10-i=(v10-(i+1))+1 from by omega]) (EB hn14 hn23))),⟨older,rfl,ho⟩,at',er,hne,(O.p 1).drop⟩
   ·refine .inr ⟨_,rfl,?_⟩;refine rE 6 I ?_;clear I a;intro a I;refine db I ?_;clear O;have O:=hS';clear hS';refine .inr ⟨eS (hP hn10 (dA (n:=v10-(i+1)) (by rw[hq,show v10-i=(v10-(i+1))+1 from by omega]) (Hj hn14))),⟨older,rfl,ho⟩,at',er,hne,(O.p 1).drop⟩
  ·intro h12;obtain rfl:i=v10:=by omega
   intro a I;rw[Nat.sub_self]at hq;have hend:=rh hq;refine rO 15 I ?_;clear I a;intro a I;replace I:=I.kp [2] rfl;refine rC 1 I ?_;clear I a;refine aS ?_;exact .inl ⟨Ae,ce,xs,at1,hP hn10 hend,hat1,by omega,rfl,O⟩
 ·refine .inr ⟨_,rfl,?_⟩;refine rE 2 I ?_;clear I a;intro a I;refine db I ?_;clear O;have O:=hS';clear hS';refine .inr ⟨?_,⟨older,rfl,ho⟩,at',er,hne,O⟩;rcases hn10 with h | ⟨k,rr,h,h2⟩
  ·exact eS (FU h)
  ·exact Bh h h2
theorem rV (W w:World)(L:List As)(r:Nat)(A:Option Addr)(c:Nat)(bs:List UInt8)(at_:Nat)(O:Sat W w (gU r A c bs at_ true 0::L))(hat:at_≤bs.length)(hb:bs.length≤1000000000000)(hR:∀w,Sat W w L→Rd w 1 (.slice A bs.length c) bs.length (bs.map ai)):Calls Tryz.prog 385 #[.pointer (some ⟨r,0,none⟩)] w fun e w'=>(∃(R:jr) (at':Nat),jI (bs.drop at_)=some (R.d,bs.drop at')∧at'≤bs.length∧R.rs.length≤bs.length∧(∀x∈R.rs,x.p.d.vec.length≤16∧x.p.d.ab.length≤bs.length)∧e=.returned (.slice R.a R.rs.length R.c)∧Sat W w' (gU r A c bs (at':Int) true 0::R.ch 206 3 219::L))∨((∀xs rr,jI (bs.drop at_)=some (xs,rr)→cC xs=false)∧xv (.iface 271 (.agg #[.pointer (some ⟨r,0,none⟩)])) e∧∃at' er:Int,er≠0∧Sat W w' (gU r A c bs at' true er::L)):=by
 refine bP Tryz.func385 [0] ?_;refine uC 14 ?_;intro a I;refine dX I rfl zE rfl (gP _ _ _ r A c bs at_ 4 O (by omega) (by omega) hR (by decide) (by decide)) ?_;rintro e w (⟨v6,at6,hn6,ha6,hk6,rfl,hS'⟩ | ⟨hn6,⟨older,rfl,ho⟩,at',er,hne,hS'⟩)
 ·clear O;have O:=hS';clear hS';rw[show (4:Int).toNat=4 from rfl]at hk6;refine .inl ⟨_,rfl,?_⟩;clear I a;refine uO 4 ?_;intro a I;refine wp_loop_ghost (fun (mm:Nat) a w=>∃(i:Nat) (rs:List RL) (Ar:Option Addr) (cr at1:Nat),Ag a 20 [(0,.pointer (some ⟨r,0,none⟩)),(3,.slice Ar (rs).length cr),(6,.int .i64 ((v6:Nat):Int)),(7,.int .i64 ((i:Nat):Int))]∧Sat W w (gU r A c bs (at1:Int) true 0::sD 206 Ar cr rs::gf 3 219 rs::L)∧(i≤v6)∧(rs.length=i)∧(at1≤bs.length)∧(fh sS v6 none (bs.drop at6)=(fh sS (v6-i) (rs.map RL.d).getLast? (bs.drop at1)).map fun q=>((rs.map RL.d)++q.1,q.2))∧(∀x∈rs,x.p.d.vec.length≤16∧x.p.d.ab.length≤bs.length)∧mm=v6-i) v6 ?_ ?_
  ·replace I:=I.kp [0,3,6,7] rfl;exact⟨0,[],none,0,at6,I,((O.kM.aX 206 3).p 2),(by omega),(by rfl),(by omega),(by exact mY),(by intro v hv;cases hv),by omega⟩
  intro m a w hI;clear O I;obtain⟨i,rs,Ar,cr,at1,I,O,hi,hrl,hat1,hq,hsm,rfl⟩:=hI;refine rC 2 I ?_;clear I a;refine aK 0 0 (aq rfl rfl) ?_ ?_
  ·intro h8;refine uO 11 ?_;intro a I;refine dX I rfl EV rfl (nk _ _ _ r A c bs at1 24 O (by omega) (by omega) (fun w s=>hR w s.drop.drop)) ?_;rintro e w (⟨s10,at10,hn10,ha10,rfl,hS'⟩ | ⟨hn10,⟨older,rfl,ho⟩,at',er,hne,hS'⟩)
   ·clear O;have O:=hS';clear hS';refine .inl ⟨_,rfl,?_⟩;clear I a;refine uO 7 ?_;intro a I;refine dX I rfl Gh rfl (pE _ _ _ r A c bs at10 O (by omega) hb (fun w s=>hR w s.drop.drop)) ?_;rintro e w (⟨q,at14,hn14,ha14,hqc,rfl,hS'⟩ | ⟨hn14,⟨older,rfl,ho⟩,at',er,hne,hS'⟩)
    ·clear O;have O:=hS';clear hS';refine .inl ⟨_,rfl,?_⟩;clear I a;intro a I;refine o1 0 I (aM I rfl kG) ?_;clear I a;intro a I;refine jf (vss:=[[_,_,_]]) I rfl rfl cY ny rfl rfl rfl (by simp) rfl O ?_;clear I a O;intro A16 w O;intro a I;refine dj I rfl rfl rfl cY ny rfl (O.p 4) (O.rd.src cY (by simp[Value.oneCell'])) (by omega) (by omega) ?_;clear I a O;intro A17 c17 w hc17 O;refine uO 5 ?_;refine u1 2 (ad rfl rfl) ?_;intro a I;replace I:=I.kp [0,3,6,7] rfl;rw[show v6-i=(v6-(i+1))+1 from (by omega)]at hq;have hq2:=mF hq (Ha hn10 hn14);have em:rs.map RL.d++[(⟨str s10,q.d⟩:bS)]=(rs++[(⟨str s10,q⟩:RL)]).map RL.d:=by rw[List.map_append];rfl
     have eg:some (⟨str s10,q.d⟩:bS)=((rs++[(⟨str s10,q⟩:RL)]).map RL.d).getLast?:=by rw[←em,fN]
     rw[em,eg]at hq2;have el:rs.length+1=(rs++[(⟨str s10,q⟩:RL)]).length:=by simp
     have hS2:=fW O el (cs':=(rs++[(⟨str s10,q⟩:RL)]).flatMap iT) (by rw[List.flatMap_append];rfl);have hS3:=kA (str s10) q ((((((hS2.p 1).p 1).p 2).p 5).p 5).p 5);rw[el]at I;have hqw:=((je (by omega)).1 hn14).2.len;refine⟨v6-(i+1),by omega,i+1,rs++[(⟨str s10,q⟩:RL)],A17,c17,at14,I,(((hS3.p 2).p 2).p 3).drop,by omega,by simp;omega,ha14,hq2,?_,rfl⟩;intro z hz;rcases List.mem_append.1 hz with hz | hz
     ·exact hsm z hz
     ·simp only[List.mem_singleton]at hz;subst hz;exact⟨hqw,hqc⟩
    ·refine .inr ⟨_,rfl,?_⟩;refine rE 5 I ?_;clear I a;intro a I;refine db I ?_;clear O;have O:=hS';clear hS';refine .inr ⟨eS (sY hn6 (dA (n:=v6-(i+1)) (by rw[hq,show v6-i=(v6-(i+1))+1 from by omega]) (HB hn10 hn14))),⟨older,rfl,ho⟩,at',er,hne,((O.p 1).drop.p 1).drop⟩
   ·refine .inr ⟨_,rfl,?_⟩;refine rE 6 I ?_;clear I a;intro a I;refine db I ?_;clear O;have O:=hS';clear hS';refine .inr ⟨eS (sY hn6 (dA (n:=v6-(i+1)) (by rw[hq,show v6-i=(v6-(i+1))+1 from by omega]) (Hl hn10))),⟨older,rfl,ho⟩,at',er,hne,((O.p 1).drop.p 1).drop⟩
  ·intro h8;obtain rfl:i=v6:=by omega
   intro a I;rw[Nat.sub_self]at hq;have hend:=rh hq;refine rO 16 I ?_;clear I a;refine aS ?_;have hS2:Sat W w (sD 206 Ar cr rs::gf 3 219 rs::gU r A c bs (at1:Int) true 0::L):=((O.p 2).p 2);have hS3:Sat W w ((⟨Ar,cr,rs⟩:jr).ch 206 3 219::gU r A c bs (at1:Int) true 0::L):=q8 hS2;exact .inl ⟨⟨Ar,cr,rs⟩,at1,sY hn6 hend,hat1,by show rs.length≤_;omega,hsm,rfl,hS3.p 1⟩
 ·refine .inr ⟨_,rfl,?_⟩;refine rE 2 I ?_;clear I a;intro a I;refine db I ?_;clear O;have O:=hS';clear hS';refine .inr ⟨?_,⟨older,rfl,ho⟩,at',er,hne,O⟩;rcases hn6 with h | ⟨k,rr,h,h2⟩
  ·exact eS (FQ h)
  ·exact Ak h h2
def H9 (bs:List UInt8)(b6 b3:Nat)(L:List As)(at' err:Int)(ok:Bool)(M:List As):Prop:=(ok=true∧err=0∧∃(Ae:Option Addr) (ce:Nat) (xs:List aR) (n:Nat),at'=(n:Int)∧jG bs=some (xs,bs.drop n)∧n≤bs.length∧(xs.length * 5≤bs.length)∧M=a6 b6 (.cells #[.slice Ae xs.length ce] 59)::a6 b3 (.cells #[.func (.func 381) #[] #[]] 452)::iX 216 Ae ce xs::L)∨(ok=false∧err≠0∧(∀xs rr,jG bs=some (xs,rr)→cd xs=false)∧M=a6 b6 (.cells #[.slice none 0 0] 59)::a6 b3 (.cells #[.func (.func 381) #[] #[]] 452)::L)
theorem yP (W w:World)(L:List As)(r q p b3 b6:Nat)(A:Option Addr)(c:Nat)(bs:List UInt8)(O:Sat W w (gU r A c bs 0 true 0::iq q r::gV p 0::a6 b6 (.cells #[.slice none 0 0] 59)::a6 b3 (.cells #[.func (.func 381) #[] #[]] 452)::L))(hb:bs.length≤1000000000000)(hR:Rd W 1 (.slice A bs.length c) bs.length (bs.map ai)):Calls Tryz.prog 393 #[.pointer (some ⟨r,0,none⟩),.pointer (some ⟨b3,0,none⟩),.pointer (some ⟨b6,0,none⟩)] w fun e w'=>∃(at' err:Int) (ok:Bool) (M:List As),AX r ok e∧Sat W w' (gU r A c bs at' true err::iq q r::gV p 0::M)∧H9 bs b6 b3 L at' err ok M:=by
 refine bP Tryz.func393 [0,1,2] ?_;refine uC 1 ?_;refine u1 1 (ld rfl) ?_;intro a I;refine AO I rfl IM rfl rfl (rP _ _ _ r A c bs 0 O (by omega) hb (fun w h=>hR.sat h)) ?_;rintro e w (⟨Ae,ce,xs,at6,hn6,ha6,hx6,rfl,hS'⟩ | ⟨hn6,⟨older,rfl,ho⟩,at',er,hne,hS'⟩)
 ·clear O;have O:=hS';clear hS';refine .inl ⟨_,rfl,?_⟩;clear I a;intro a I;refine mQ I rfl rfl J4 JW rfl (O.p 4) rfl ?_;clear O;intro w O;refine rO 1 I ?_;clear I a;intro a I;refine fL (e:=.ret) ?_;refine ji I rfl  ?_;exact⟨(at6:Int),0,true,_,.inl ⟨rfl,rfl⟩,((((((O.p 2).p 5).p 2).p 5).p 5).p 5),.inl ⟨rfl,rfl,Ae,ce,xs,at6,rfl,hn6,ha6,hx6,rfl⟩⟩
 ·refine .inr ⟨_,rfl,?_⟩;refine db I ?_;clear O;have O:=hS';clear hS';exact⟨at',er,false,_,.inr ⟨rfl,.inl ⟨older,rfl,ho⟩⟩,O,.inr ⟨rfl,hne,hn6,rfl⟩⟩
def IU (bs:List UInt8)(b6 b3:Nat)(L:List As)(at' err:Int)(ok:Bool)(M:List As):Prop:=(ok=true∧err=0∧∃(z:PL) (n:Nat),at'=(n:Int)∧fp bs=some (z.d,bs.drop n)∧n≤bs.length∧(z.d.ab.length≤bs.length)∧M=a6 b6 (.cells #[.slice z.va z.d.vec.length z.vc,.slice z.ca z.d.ab.length z.cc] 63)::a6 b3 (.cells #[.func (.func 383) #[] #[]] 455)::cM 3 z.va z.vc z.d.vec::bH 219 z.ca z.cc z.d.ab::L)∨(ok=false∧err≠0∧(fp bs=none)∧M=a6 b6 (.cells #[.slice none 0 0,.slice none 0 0] 63)::a6 b3 (.cells #[.func (.func 383) #[] #[]] 455)::L)
theorem y4 (W w:World)(L:List As)(r q p b3 b6:Nat)(A:Option Addr)(c:Nat)(bs:List UInt8)(O:Sat W w (gU r A c bs 0 true 0::iq q r::gV p 0::a6 b6 (.cells #[.slice none 0 0,.slice none 0 0] 63)::a6 b3 (.cells #[.func (.func 383) #[] #[]] 455)::L))(hb:bs.length≤1000000000000)(hR:Rd W 1 (.slice A bs.length c) bs.length (bs.map ai)):Calls Tryz.prog 395 #[.pointer (some ⟨r,0,none⟩),.pointer (some ⟨b3,0,none⟩),.pointer (some ⟨b6,0,none⟩)] w fun e w'=>∃(at' err:Int) (ok:Bool) (M:List As),AX r ok e∧Sat W w' (gU r A c bs at' true err::iq q r::gV p 0::M)∧IU bs b6 b3 L at' err ok M:=by
 refine bP Tryz.func395 [0,1,2] ?_;refine uC 1 ?_;refine u1 1 (ld rfl) ?_;intro a I;refine AO I rfl Gh rfl rfl (pE _ _ _ r A c bs 0 O (by omega) hb (fun w h=>hR.sat h)) ?_;rintro e w (⟨z,at6,hn6,ha6,hx6,rfl,hS'⟩ | ⟨hn6,⟨older,rfl,ho⟩,at',er,hne,hS'⟩)
 ·clear O;have O:=hS';clear hS';refine .inl ⟨_,rfl,?_⟩;clear I a;intro a I;refine Ef I (vs:=[_,_]) rfl rfl bo (by simp[Value.oneCell']) (O.p 5) (by simp) ?_;clear O;intro w O;refine rO 1 I ?_;clear I a;intro a I;refine fL (e:=.ret) ?_;refine ji I rfl  ?_;exact⟨(at6:Int),0,true,_,.inl ⟨rfl,rfl⟩,(((((((O.p 3).p 3).p 6).p 3).p 6).p 6).p 6),.inl ⟨rfl,rfl,z,at6,rfl,hn6,ha6,hx6,rfl⟩⟩
 ·refine .inr ⟨_,rfl,?_⟩;refine db I ?_;clear O;have O:=hS';clear hS';exact⟨at',er,false,_,.inr ⟨rfl,.inl ⟨older,rfl,ho⟩⟩,O,.inr ⟨rfl,hne,hn6,rfl⟩⟩
def I1 (bs:List UInt8)(b6 b3:Nat)(L:List As)(at' err:Int)(ok:Bool)(M:List As):Prop:=(ok=true∧err=0∧∃(R:jr) (n:Nat),at'=(n:Int)∧jI bs=some (R.d,bs.drop n)∧n≤bs.length∧(R.rs.length≤bs.length∧(∀x∈R.rs,x.p.d.vec.length≤16∧x.p.d.ab.length≤bs.length))∧M=a6 b6 (.cells #[.slice R.a R.rs.length R.c] 64)::a6 b3 (.cells #[.func (.func 385) #[] #[]] 458)::R.ch 206 3 219::L)∨(ok=false∧err≠0∧(∀xs rr,jI bs=some (xs,rr)→cC xs=false)∧M=a6 b6 (.cells #[.slice none 0 0] 64)::a6 b3 (.cells #[.func (.func 385) #[] #[]] 458)::L)
theorem zu (W w:World)(L:List As)(r q p b3 b6:Nat)(A:Option Addr)(c:Nat)(bs:List UInt8)(O:Sat W w (gU r A c bs 0 true 0::iq q r::gV p 0::a6 b6 (.cells #[.slice none 0 0] 64)::a6 b3 (.cells #[.func (.func 385) #[] #[]] 458)::L))(hb:bs.length≤1000000000000)(hR:Rd W 1 (.slice A bs.length c) bs.length (bs.map ai)):Calls Tryz.prog 396 #[.pointer (some ⟨r,0,none⟩),.pointer (some ⟨b3,0,none⟩),.pointer (some ⟨b6,0,none⟩)] w fun e w'=>∃(at' err:Int) (ok:Bool) (M:List As),AX r ok e∧Sat W w' (gU r A c bs at' true err::iq q r::gV p 0::M)∧I1 bs b6 b3 L at' err ok M:=by
 refine bP Tryz.func396 [0,1,2] ?_;refine uC 1 ?_;refine u1 1 (ld rfl) ?_;intro a I;refine AO I rfl Is rfl rfl (rV _ _ _ r A c bs 0 O (by omega) hb (fun w h=>hR.sat h)) ?_;rintro e w (⟨R,at6,hn6,ha6,hx6,hx7,rfl,hS'⟩ | ⟨hn6,⟨older,rfl,ho⟩,at',er,hne,hS'⟩)
 ·clear O;have O:=hS';clear hS';refine .inl ⟨_,rfl,?_⟩;clear I a;intro a I;refine mQ I rfl rfl JF JX rfl (O.p 4) rfl ?_;clear O;intro w O;refine rO 1 I ?_;clear I a;intro a I;refine fL (e:=.ret) ?_;refine ji I rfl  ?_;exact⟨(at6:Int),0,true,_,.inl ⟨rfl,rfl⟩,((((((O.p 2).p 5).p 2).p 5).p 5).p 5),.inl ⟨rfl,rfl,R,at6,rfl,hn6,ha6,⟨hx6,hx7⟩,rfl⟩⟩
 ·refine .inr ⟨_,rfl,?_⟩;refine db I ?_;clear O;have O:=hS';clear hS';exact⟨at',er,false,_,.inr ⟨rfl,.inl ⟨older,rfl,ho⟩⟩,O,.inr ⟨rfl,hne,hn6,rfl⟩⟩
theorem AV (W:World)(A:Option Addr)(c:Nat)(bs:List UInt8)(hb:bs.length≤1000000000000)(hR:Rd W 1 (.slice A bs.length c) bs.length (bs.map ai)):Calls Tryz.prog 380 #[.slice A (bs).length c,.func (.func 381) #[] #[]] W fun e w'=>(∃(Ae:Option Addr) (ce:Nat) (xs:List aR),jG bs=some (xs,[])∧(xs.length * 5≤bs.length)∧e=.returned (.tuple #[.slice Ae xs.length ce,.bool true])∧Sat W w' [iX 216 Ae ce xs])∨((∀xs,jG bs=some (xs,[])→cd xs=false)∧∃v,e=.returned (.tuple #[v,.bool false])∧Sat W w' []):=by
 refine bP Tryz.func380 [0,1] ?_;have O:=Sat.start W;refine uC 2 ?_;refine uB rfl O ?_;clear O;intro b3 w O;refine uO 6 ?_;refine uN JC O ?_;clear O;intro b6 w O;refine uO 5 ?_;intro a I;refine o1 0 I (qn (I.ml rfl)) ?_;clear I a;refine uF rfl (jk _ _ _ A c bs (fun _ at' err ok M=>H9 bs b6 b3 [] at' err ok M) 393 [.pointer (some ⟨b3,0,none⟩),.pointer (some ⟨b6,0,none⟩)] (O) (by omega) I6 (fun w r q p O=>(yP _ _ _ r q p b3 b6 A c bs O hb hR))) ?_;rintro e w ⟨r0,q0,p0,at',err,ok,M,rfl,O,(⟨rfl,rfl,Ae,ce,xs,at6,rfl,hn6,ha6,hx6,rfl⟩ | ⟨rfl,hne,hn6,rfl⟩)⟩
 ·replace O:=O.drop.drop.drop;refine uO 5 ?_;refine u1 1 (ld rfl) ?_;refine u1 5 (aY rfl rfl) ?_;refine ft ?_;rw[show decide (p5 true 0 (at6:Int) bs.length=0)=decide (bs.length≤at6) from by rw[decide_eq_decide,lU rfl];(simp;done)]
  by_cases hle:bs.length≤at6
  ·rw[List.drop_of_length_le hle]at hn6;rw[decide_eq_true hle];exact .inl ⟨Ae,ce,xs,hn6,hx6,rfl,Sat.cW (M:=[_]) (O.p 2) _⟩
  ·rw[decide_eq_false hle];refine .inr ⟨?_,_,rfl,O.nil⟩;intro d h;rw[hn6]at h
   injection h with h
   have h2:=congrArg List.length (Prod.mk.inj h).2;rw[List.length_drop]at h2;simp at h2;omega
 ·replace O:=O.drop.drop.drop;refine uO 5 ?_;refine u1 1 (ld rfl) ?_;refine u1 5 (aY rfl rfl) ?_;refine ft ?_;rw[show decide (p5 false err at' bs.length=0)=false from by rw[decide_eq_false];rw[lh rfl,if_pos hne];exact hne];exact .inr ⟨fun xs h=>hn6 xs [] h,_,rfl,O.nil⟩
theorem Bs (W:World)(A:Option Addr)(c:Nat)(bs:List UInt8)(hb:bs.length≤1000000000000)(hR:Rd W 1 (.slice A bs.length c) bs.length (bs.map ai)):Calls Tryz.prog 382 #[.slice A (bs).length c,.func (.func 383) #[] #[]] W fun e w'=>(∃(z:PL),fp bs=some (z.d,[])∧(z.d.ab.length≤bs.length)∧e=.returned (.tuple #[.agg #[.slice z.va z.d.vec.length z.vc,.slice z.ca z.d.ab.length z.cc],.bool true])∧Sat W w' [cM 3 z.va z.vc z.d.vec,bH 219 z.ca z.cc z.d.ab])∨((∀d,fp bs=some (d,[])→bJ d=false)∧∃z:PL,e=.returned (.tuple #[.agg #[.slice z.va z.d.vec.length z.vc,.slice z.ca z.d.ab.length z.cc],.bool false])∧Sat W w' []):=by
 refine bP Tryz.func382 [0,1] ?_;have O:=Sat.start W;refine uC 2 ?_;refine uB rfl O ?_;clear O;intro b3 w O;refine uN dK O ?_;clear O;intro b4 w O;refine uO 5 ?_;refine uN dK O ?_;clear O;intro b6 w O;refine uO 5 ?_;intro a I;refine o1 0 I (qn (I.ml rfl)) ?_;clear I a;refine uF rfl (jk _ _ _ A c bs (fun _ at' err ok M=>IU bs b6 b3 [a6 b4 (.cells #[.slice none 0 0,.slice none 0 0] 63)] at' err ok M) 395 [.pointer (some ⟨b3,0,none⟩),.pointer (some ⟨b6,0,none⟩)] ((((O.p 1).p 2).p 2)) (by omega) Iw (fun w r q p O=>(y4 _ _ _ r q p b3 b6 A c bs O hb hR))) ?_;rintro e w ⟨r0,q0,p0,at',err,ok,M,rfl,O,(⟨rfl,rfl,z,at6,rfl,hn6,ha6,hx6,rfl⟩ | ⟨rfl,hne,hn6,rfl⟩)⟩
 ·replace O:=O.drop.drop.drop;refine uO 5 ?_;refine u1 1 (lS (cs:=[_,_]) rfl) ?_;refine u1 0 (aY rfl rfl) ?_;refine uW (vs:=[_,_]) (cs':=[_,_]) rfl rfl bo (O.p 4) ?_;clear O;intro w O;refine uO 4 ?_;intro a I;refine eu I rfl (de (cs:=[_,_]) I rfl fu bo (by exact O.aF (xs:=[_,_]) rfl)) (dm I rfl) ?_;rw[show decide (p5 true 0 (at6:Int) bs.length=0)=decide (bs.length≤at6) from by rw[decide_eq_decide,lU rfl];(simp;done)]
  by_cases hle:bs.length≤at6
  ·rw[List.drop_of_length_le hle]at hn6;rw[decide_eq_true hle];exact .inl ⟨z,hn6,hx6,rfl,Sat.cW (M:=[_,_]) ((O.p 4).p 4) _⟩
  ·rw[decide_eq_false hle];refine .inr ⟨?_,z,rfl,O.nil⟩;intro d h;rw[hn6]at h
   injection h with h
   have h2:=congrArg List.length (Prod.mk.inj h).2;rw[List.length_drop]at h2;simp at h2;omega
 ·replace O:=O.drop.drop.drop;refine uO 5 ?_;refine u1 1 (lS (cs:=[_,_]) rfl) ?_;refine u1 0 (aY rfl rfl) ?_;refine uW (vs:=[_,_]) (cs':=[_,_]) rfl rfl bo (O.p 2) ?_;clear O;intro w O;refine uO 4 ?_;intro a I;refine eu I rfl (de (cs:=[_,_]) I rfl fu bo (by exact O.aF (xs:=[_,_]) rfl)) (dm I rfl) ?_;rw[show decide (p5 false err at' bs.length=0)=false from by rw[decide_eq_false];rw[lh rfl,if_pos hne];exact hne];exact .inr ⟨fun d h=>(by rw[hn6]at h;cases h),⟨none,0,none,0,⟨[],[]⟩⟩,rfl,O.nil⟩
theorem Bn (W:World)(A:Option Addr)(c:Nat)(bs:List UInt8)(hb:bs.length≤1000000000000)(hR:Rd W 1 (.slice A bs.length c) bs.length (bs.map ai)):Calls Tryz.prog 384 #[.slice A (bs).length c,.func (.func 385) #[] #[]] W fun e w'=>(∃(R:jr),jI bs=some (R.d,[])∧(R.rs.length≤bs.length∧(∀x∈R.rs,x.p.d.vec.length≤16∧x.p.d.ab.length≤bs.length))∧e=.returned (.tuple #[.slice R.a R.rs.length R.c,.bool true])∧Sat W w' [R.ch 206 3 219])∨((∀xs,jI bs=some (xs,[])→cC xs=false)∧∃v,e=.returned (.tuple #[v,.bool false])∧Sat W w' []):=by
 refine bP Tryz.func384 [0,1] ?_;have O:=Sat.start W;refine uC 2 ?_;refine uB rfl O ?_;clear O;intro b3 w O;refine uO 6 ?_;refine uN JU O ?_;clear O;intro b6 w O;refine uO 5 ?_;intro a I;refine o1 0 I (qn (I.ml rfl)) ?_;clear I a;refine uF rfl (jk _ _ _ A c bs (fun _ at' err ok M=>I1 bs b6 b3 [] at' err ok M) 396 [.pointer (some ⟨b3,0,none⟩),.pointer (some ⟨b6,0,none⟩)] (O) (by omega) Ig (fun w r q p O=>(zu _ _ _ r q p b3 b6 A c bs O hb hR))) ?_;rintro e w ⟨r0,q0,p0,at',err,ok,M,rfl,O,(⟨rfl,rfl,R,at6,rfl,hn6,ha6,hx6,rfl⟩ | ⟨rfl,hne,hn6,rfl⟩)⟩
 ·replace O:=O.drop.drop.drop;refine uO 5 ?_;refine u1 1 (ld rfl) ?_;refine u1 5 (aY rfl rfl) ?_;refine ft ?_;rw[show decide (p5 true 0 (at6:Int) bs.length=0)=decide (bs.length≤at6) from by rw[decide_eq_decide,lU rfl];(simp;done)]
  by_cases hle:bs.length≤at6
  ·rw[List.drop_of_length_le hle]at hn6;rw[decide_eq_true hle];exact .inl ⟨R,hn6,hx6,rfl,Sat.cW (M:=[_]) (O.p 2) _⟩
  ·rw[decide_eq_false hle];refine .inr ⟨?_,_,rfl,O.nil⟩;intro d h;rw[hn6]at h
   injection h with h
   have h2:=congrArg List.length (Prod.mk.inj h).2;rw[List.length_drop]at h2;simp at h2;omega
 ·replace O:=O.drop.drop.drop;refine uO 5 ?_;refine u1 1 (ld rfl) ?_;refine u1 5 (aY rfl rfl) ?_;refine ft ?_;rw[show decide (p5 false err at' bs.length=0)=false from by rw[decide_eq_false];rw[lh rfl,if_pos hne];exact hne];exact .inr ⟨fun xs h=>hn6 xs [] h,_,rfl,O.nil⟩
theorem rW (W:World)(A:Option Addr)(c:Nat)(bs:List UInt8)(hb:bs.length≤16777216)(hR:Rd W 1 (.slice A bs.length c) bs.length (bs.map ai)):Calls Tryz.prog 365 #[.slice A (bs).length c] W fun e w'=>(∃(Ae:Option Addr) (ce:Nat) (xs:List aR),jG bs=some (xs,[])∧cd xs=true∧(xs.length * 5≤bs.length)∧e=.returned (.tuple #[.slice Ae xs.length ce,.int .i64 0])∧Sat W w' [iX 216 Ae ce xs])∨((∀xs,jG bs=some (xs,[])→cd xs=false)∧e=.returned (.tuple #[.slice none 0 0,.int .i64 8])∧Sat W w' []):=by
 refine bP Tryz.func365 [0] ?_;have O:=Sat.start W;refine uC 9 ?_;refine uF rfl (AV _ A c bs (by omega) (hR.sat O)) ?_;rintro e w (⟨Ae,ce,xs,hq,hbd,rfl,hT⟩ | ⟨hno,v,rfl,hT⟩)
 ·replace O:=O.au hT;clear hT;refine uO 1 ?_;refine u1 0 (an rfl rfl) ?_;refine ng 0 0 (an rfl rfl) ?_ ?_
  ·intro h10;intro a I;simp only[decide_eq_decide,decide_eq_true_eq,decide_eq_false_iff_not,Bool.not_eq_true',Bool.not_eq_false',bne_iff_ne,ne_eq,beq_iff_eq,Bool.not_eq_true,Bool.not_eq_false]at h10;refine rO 8 I ?_;clear I a;refine u1 2 (aI rfl) ?_;refine jR rfl (gx _ Ae ce xs O.rd (by omega)) ?_;rintro e w ⟨rfl,hT⟩;replace O:Sat _ _ _:=O.ag hT;clear hT;refine aK 0 0 (aG rfl rfl) ?_ ?_
   ·intro h16;refine uO 12 ?_;refine ft ?_;have hg:cd xs=false:=by simpa[jr.d]using h16
    refine .inr ⟨?_,rfl,O.nil⟩;intro d h;rw[hq]at h;cases h;exact hg
   ·intro h16;refine uO 14 ?_;refine ft ?_;have hg:cd xs=true:=by simpa[jr.d]using h16
    exact .inl ⟨Ae,ce,xs,hq,hg,hbd,rfl,bY O⟩
  ·intro h10;intro a I;contradiction
 ·replace O:Sat _ _ _:=O.ag hT;clear hT;refine uO 1 ?_;refine u1 0 (an rfl rfl) ?_;refine ng 0 0 (an rfl rfl) ?_ ?_
  ·intro h10;intro a I;contradiction
  ·intro h10;intro a I;simp only[decide_eq_decide,decide_eq_true_eq,decide_eq_false_iff_not,Bool.not_eq_true',Bool.not_eq_false',bne_iff_ne,ne_eq,beq_iff_eq,Bool.not_eq_true,Bool.not_eq_false]at h10;refine rO 8 I ?_;clear I a;refine u1 16 (aI rfl) ?_;refine ft ?_;exact .inr ⟨hno,rfl,O.nil⟩
theorem pe (W:World)(A:Option Addr)(c:Nat)(bs:List UInt8)(hb:bs.length≤16777216)(hR:Rd W 1 (.slice A bs.length c) bs.length (bs.map ai)):Calls Tryz.prog 366 #[.slice A (bs).length c] W fun e w'=>(∃(z:PL),fp bs=some (z.d,[])∧bJ z.d=true∧(z.d.ab.length≤bs.length)∧e=.returned (.tuple #[.agg #[.slice z.va z.d.vec.length z.vc,.slice z.ca z.d.ab.length z.cc],.int .i64 0])∧Sat W w' [cM 3 z.va z.vc z.d.vec,bH 219 z.ca z.cc z.d.ab])∨((∀d,fp bs=some (d,[])→bJ d=false)∧e=.returned (.tuple #[.agg #[.slice none 0 0,.slice none 0 0],.int .i64 8])∧Sat W w' []):=by
 refine bP Tryz.func366 [0] ?_;have O:=Sat.start W;refine uC 2 ?_;refine uN dK O ?_;clear O;intro b2 w O;refine uO 6 ?_;refine uF rfl (Bs _ A c bs (by omega) (hR.sat O)) ?_;rintro e w (⟨z,hq,hbd,rfl,hT⟩ | ⟨hno,z,rfl,hT⟩)
 ·replace O:Sat _ _ (_::_::_):=O.ag hT;clear hT;have hzv:=((je (by omega)).1 hq).2.len;refine uO 1 ?_;refine u1 0 (an rfl rfl) ?_;refine ng 0 0 (an rfl rfl) ?_ ?_
  ·intro h10;intro a I;simp only[decide_eq_decide,decide_eq_true_eq,decide_eq_false_iff_not,Bool.not_eq_true',Bool.not_eq_false',bne_iff_ne,ne_eq,beq_iff_eq,Bool.not_eq_true,Bool.not_eq_false]at h10;refine goN I rfl dK O ?_;clear I a O;intro b4 w O;refine uW (vs:=[_,_]) (cs':=[_,_]) rfl rfl bo O ?_;clear O;intro w O;refine uO 7 ?_;refine u1 1 (aI rfl) ?_;refine u1 0 (lS (cs:=[_,_]) rfl) ?_;refine jR rfl (fB _ z ⟨(O.p 1).rd,(O.p 2).rd⟩ (by omega) (by omega)) ?_;rintro e w ⟨rfl,hT⟩;replace O:Sat _ _ _:=O.ag hT;clear hT;generalize h15:(bJ z.d)=bb;cases bb
   ·refine u1 6 (aI rfl) ?_;intro a I;refine o1 0 I (aM I rfl BN) ?_;clear I a;refine uW (vs:=[_,_]) (cs':=[_,_]) rfl rfl bo (O.p 3) ?_;clear O;intro w O;refine uO 5 ?_;intro a I;refine eu I rfl (de (cs:=[_,_]) I rfl fu bo (by exact O.aF (xs:=[_,_]) rfl)) (dm I rfl) ?_;have hg:bJ z.d=false:=h15;refine .inr ⟨?_,rfl,O.nil⟩;intro d h;rw[hq]at h;cases h;exact hg
   ·refine u1 8 (aI rfl) ?_;refine u1 0 (lS (cs:=[_,_]) rfl) ?_;refine uW (vs:=[_,_]) (cs':=[_,_]) rfl rfl bo (O.p 3) ?_;clear O;intro w O;refine uO 4 ?_;intro a I;refine eu I rfl (de (cs:=[_,_]) I rfl fu bo (by exact O.aF (xs:=[_,_]) rfl)) (dm I rfl) ?_;have hg:bJ z.d=true:=h15;exact .inl ⟨z,hq,hg,hbd,rfl,oW ((O.p 3).p 3)⟩
  ·intro h10;intro a I;contradiction
 ·replace O:Sat _ _ _:=O.ag hT;clear hT;refine uO 1 ?_;refine u1 0 (an rfl rfl) ?_;refine ng 0 0 (an rfl rfl) ?_ ?_
  ·intro h10;intro a I;contradiction
  ·intro h10;intro a I;simp only[decide_eq_decide,decide_eq_true_eq,decide_eq_false_iff_not,Bool.not_eq_true',Bool.not_eq_false',bne_iff_ne,ne_eq,beq_iff_eq,Bool.not_eq_true,Bool.not_eq_false]at h10;refine goN I rfl dK O ?_;clear I a O;intro b4 w O;refine uW (vs:=[_,_]) (cs':=[_,_]) rfl rfl bo O ?_;clear O;intro w O;refine uO 7 ?_;refine u1 10 (aI rfl) ?_;intro a I;refine o1 0 I (aM I rfl BN) ?_;clear I a;refine uW (vs:=[_,_]) (cs':=[_,_]) rfl rfl bo (O.p 1) ?_;clear O;intro w O;refine uO 5 ?_;intro a I;refine eu I rfl (de (cs:=[_,_]) I rfl fu bo (by exact O.aF (xs:=[_,_]) rfl)) (dm I rfl) ?_;exact .inr ⟨hno,rfl,O.nil⟩
theorem gy (W:World)(A:Option Addr)(c:Nat)(bs:List UInt8)(hb:bs.length≤16777216)(hR:Rd W 1 (.slice A bs.length c) bs.length (bs.map ai)):Calls Tryz.prog 367 #[.slice A (bs).length c] W fun e w'=>(∃(R:jr),jI bs=some (R.d,[])∧cC R.d=true∧(R.rs.length≤bs.length∧(∀x∈R.rs,x.p.d.vec.length≤16∧x.p.d.ab.length≤bs.length))∧e=.returned (.tuple #[.slice R.a R.rs.length R.c,.int .i64 0])∧Sat W w' [R.ch 206 3 219])∨((∀xs,jI bs=some (xs,[])→cC xs=false)∧e=.returned (.tuple #[.slice none 0 0,.int .i64 8])∧Sat W w' []):=by
 refine bP Tryz.func367 [0] ?_;have O:=Sat.start W;refine uC 9 ?_;refine uF rfl (Bn _ A c bs (by omega) (hR.sat O)) ?_;rintro e w (⟨R,hq,hbd,rfl,hT⟩ | ⟨hno,v,rfl,hT⟩)
 ·replace O:=O.au hT;clear hT;have hrl:=hbd.1;refine uO 1 ?_;refine u1 0 (an rfl rfl) ?_;refine ng 0 0 (an rfl rfl) ?_ ?_
  ·intro h10;intro a I;simp only[decide_eq_decide,decide_eq_true_eq,decide_eq_false_iff_not,Bool.not_eq_true',Bool.not_eq_false',bne_iff_ne,ne_eq,beq_iff_eq,Bool.not_eq_true,Bool.not_eq_false]at h10;refine rO 8 I ?_;clear I a;refine u1 2 (aI rfl) ?_;intro a I;refine H6 I (aL I rfl rfl rfl) rfl Iy rfl (fy _ R.a R.c R.rs (jr.uh O).top (jr.uh O).each (fun r hr=>by have:=hbd.2 r hr;omega) (by omega)) ?_;clear I a;rintro e w ⟨rfl,hT⟩;replace O:Sat _ _ _:=O.ag hT;clear hT;refine⟨_,rfl,?_⟩;refine aK 0 0 (aG rfl rfl) ?_ ?_
   ·intro h16;refine uO 12 ?_;refine ft ?_;have hg:cC R.d=false:=by simpa[jr.d]using h16
    refine .inr ⟨?_,rfl,O.nil⟩;intro d h;rw[hq]at h;cases h;exact hg
   ·intro h16;refine uO 14 ?_;refine ft ?_;have hg:cC R.d=true:=by simpa[jr.d]using h16
    exact .inl ⟨R,hq,hg,hbd,rfl,bY O⟩
  ·intro h10;intro a I;contradiction
 ·replace O:Sat _ _ _:=O.ag hT;clear hT;refine uO 1 ?_;refine u1 0 (an rfl rfl) ?_;refine ng 0 0 (an rfl rfl) ?_ ?_
  ·intro h10;intro a I;contradiction
  ·intro h10;intro a I;simp only[decide_eq_decide,decide_eq_true_eq,decide_eq_false_iff_not,Bool.not_eq_true',Bool.not_eq_false',bne_iff_ne,ne_eq,beq_iff_eq,Bool.not_eq_true,Bool.not_eq_false]at h10;refine rO 8 I ?_;clear I a;refine u1 16 (aI rfl) ?_;refine ft ?_;exact .inr ⟨hno,rfl,O.nil⟩
end Go.Proofs.YtkjabaihpkbfhaaGreat.Wk
namespace Go.Proofs.YtkjabaihpkbfhaaGreat.K
open Go Go.RowKit
variable {P:Program} {a:Act} {n:Nat} {E:Env} {w:World}
theorem IT {f:ResultVar→Sem Value}{r s u t:ResultVar}{v x z y:Value}(h1:(f r).run P w=.ok v w)(h2:(f s).run P w=.ok x w)(h3:(f u).run P w=.ok z w)(h4:(f t).run P w=.ok y w):((#[r,s,u,t]:Array ResultVar).mapM f).run P w=.ok #[v,x,z,y] w:=by
 simp[go_sem,h1,h2,h3,h4]
theorem pq {fn:Func}{R:Ending→World→Prop}{r s u t:ResultVar}{v x z y:Value}(I:Ag a n E)(hr:fn.results=#[r,s,u,t])(hv:mz P w a.tmps r v)(hx:mz P w a.tmps s x)(hz:mz P w a.tmps u z)(hy:mz P w a.tmps t y)(h:R (.returned (.tuple #[v,x,z,y])) w):bodyPost P fn R .ret a w:=
 ⟨I.defers,.tuple #[v,x,z,y],by rw[np,hr,Sem.run_bind',IT hv hx hz hy];rfl,h⟩
end Go.Proofs.YtkjabaihpkbfhaaGreat.K
namespace Go.Proofs.YtkjabaihpkbfhaaGreat.Wk
open Go Go.RowKit Go.Proofs.YtkjabaihpkbfhaaGreat Go.Proofs.YtkjabaihpkbfhaaGreat.K Go.Proofs.YtkjabaihpkbfhaaGreat.T
def ry (k:Nat)(f:iW→Bool)(b:List UInt8):Prop:=∀d:iW,f d=true→b≠cq k d
theorem kH {xs:List aR}(h:cd xs=true)(hl:xs.length≤9223372036854775807):jG (cI xs)=some (xs,[]):=wD.2 ⟨by simp,i7 h,hl⟩
theorem oX {p:aJ}(h:bJ p=true)(hl:p.ab.length≤9223372036854775807):fp (cB p)=some (p,[]):=(je hl).2 ⟨by simp,(fw.1 h).toAD⟩
theorem FW {rs:List bS}(h:∀r∈rs,fb r=true)(hl:∀r∈rs,r.bB.ab.length≤9223372036854775807):iU EP none rs:=by
 have:∀(l:List bS) (p:Option bS),(∀r∈l,fb r=true)→(∀r∈l,r.bB.ab.length≤9223372036854775807)→iU EP p l:=by
  intro l
  induction l with
  | nil=>intro p _ _;trivial
  | cons x l ih =>
    intro p h1 h2;have h3:=mv (h1 x (by simp));exact⟨⟨h3.1,h3.2.toAD,h2 x (by simp)⟩,ih _ (fun r hr=>h1 r (by simp[hr])) (fun r hr=>h2 r (by simp[hr]))⟩
 exact this rs none h hl
theorem si {rs:List bS}(h:cC rs=true)(hl:(bV rs).length≤9223372036854775807):jI (bV rs)=some (rs,[]):=by
 have hs:=zS rs;have hn:=qJ (rs.map bS.bB);rw[List.length_map]at hn;refine rA.2 ⟨by simp,FW (fA h) (fun r hr=>?_),by omega⟩;have:=tO (List.mem_map.2 ⟨r,hr,rfl⟩:r.bB∈rs.map bS.bB);omega
theorem lE {k:Nat}{d:iW}(hk:k≤2)(hL:(cq k d).length≤9223372036854775807):∃r0 r1 r2:List UInt8,bM 2 (cq k d)=some (k,r0)∧dh 9223372036854775807 r0=some (cI d.kL,r1)∧dh 9223372036854775807 r1=some (cB d.bB,r2)∧dh 9223372036854775807 r2=some (bV d.lY,[]):=by
 unfold cq fr at hL ⊢;simp only[List.length_append]at hL;exact⟨_,_,_,bD.2 ⟨rfl,by omega,by omega⟩,eH.2 ⟨rfl,by omega,by omega⟩,eH.2 ⟨rfl,by omega,by omega⟩,eH.2 ⟨by simp,by omega,by omega⟩⟩
section
variable {k:Nat} {f:iW→Bool} {b:List UInt8}
theorem Kq (hk:k≤2)(hL:b.length≤9223372036854775807)(h:bM 2 b=none):ry k f b:=fun d _ e=>by
 subst e;obtain⟨r0,r1,r2,h0,_⟩:=lE hk hL;rw[h0]at h;cases h
theorem Kp (hk:k≤2)(hL:b.length≤9223372036854775807){v:Nat}{r0:List UInt8}(h0:bM 2 b=some (v,r0))(h:(v:Int)≠(k:Int)):ry k f b:=fun d _ e=>by
 subst e;obtain⟨s0,r1,r2,g0,_⟩:=lE hk hL;rw[g0]at h0;cases h0;exact h rfl
theorem Kv (hk:k≤2)(hL:b.length≤9223372036854775807){v:Nat}{r0:List UInt8}(h0:bM 2 b=some (v,r0))(h:dh 9223372036854775807 r0=none):ry k f b:=fun d _ e=>by
 subst e;obtain⟨s0,r1,r2,g0,g1,_⟩:=lE hk hL;rw[g0]at h0;cases h0;rw[g1]at h;cases h
theorem Kx (hk:k≤2)(hL:b.length≤9223372036854775807){v:Nat}{r0 r1 f0:List UInt8}(h0:bM 2 b=some (v,r0))(h1:dh 9223372036854775807 r0=some (f0,r1))(h:dh 9223372036854775807 r1=none):ry k f b:=fun d _ e=>by
 subst e;obtain⟨s0,s1,r2,g0,g1,g2,_⟩:=lE hk hL;rw[g0]at h0;cases h0;rw[g1]at h1;cases h1;rw[g2]at h;cases h
theorem Ks (hk:k≤2)(hL:b.length≤9223372036854775807){v:Nat}{r0 r1 r2 f0 f1:List UInt8}(h0:bM 2 b=some (v,r0))(h1:dh 9223372036854775807 r0=some (f0,r1))(h2:dh 9223372036854775807 r1=some (f1,r2))(h:dh 9223372036854775807 r2=none):ry k f b:=fun d _ e=>by
 subst e;obtain⟨s0,s1,s2,g0,g1,g2,g3⟩:=lE hk hL;rw[g0]at h0;cases h0;rw[g1]at h1;cases h1;rw[g2]at h2;cases h2;rw[g3]at h;cases h
theorem Gs (hk:k≤2)(hL:b.length≤9223372036854775807){v:Nat}{r0 r1 r2 r3 f0 f1 f2:List UInt8}(h0:bM 2 b=some (v,r0))(h1:dh 9223372036854775807 r0=some (f0,r1))(h2:dh 9223372036854775807 r1=some (f1,r2))(h3:dh 9223372036854775807 r2=some (f2,r3))
 (hf:∀d,f d=true→r3=[]→f0=cI d.kL→f1=cB d.bB→f2=bV d.lY→False):ry k f b:=fun d hd e=>by
 subst e;obtain⟨s0,s1,s2,g0,g1,g2,g3⟩:=lE hk hL;rw[g0]at h0;cases h0;rw[g1]at h1;cases h1;rw[g2]at h2;cases h2;rw[g3]at h3;cases h3;exact hf d hd rfl rfl rfl rfl
theorem H4 {v:Nat}{r0 r1 r2 f0 f1 f2:List UInt8}{d:iW}(h0:bM 2 b=some (v,r0))(hv:v=k)(h1:dh 9223372036854775807 r0=some (f0,r1))(h2:dh 9223372036854775807 r1=some (f1,r2))(h3:dh 9223372036854775807 r2=some (f2,[]))
 (e0:jG f0=some (d.kL,[])) (e1:fp f1=some (d.bB,[])) (e2:jI f2=some (d.lY,[])) (hc:d.bB.ab.length≤9223372036854775807):b=cq k d:=by
 subst hv;obtain⟨rfl,_,_⟩:=bD.1 h0;obtain⟨rfl,_,_⟩:=eH.1 h1;obtain⟨rfl,_,_⟩:=eH.1 h2;obtain⟨rfl,_,_⟩:=eH.1 h3;obtain⟨rfl,_,_⟩:=wD.1 e0;obtain⟨rfl,_⟩:=(je hc).1 e1;obtain⟨rfl,_,_⟩:=rA.1 e2;unfold cq fr;simp only[List.append_nil,List.append_assoc]
end
theorem kF {xs:List aR}{n:Nat}(h:(cI xs).length≤n)(hn:n≤9223372036854775807:=by omega):xs.length≤9223372036854775807:=by
 have h1:=jA (g:=mw) (k:=4) (fun p e=>Eg p e) xs none;unfold cI at h;rw[List.length_append]at h;omega
theorem oY {p:aJ}{n:Nat}(h:(cB p).length≤n)(hn:n≤9223372036854775807:=by omega):p.ab.length≤9223372036854775807:=by
 have:=p4 p;omega
theorem D7 {es:List aR}{p:aJ}{rs:List bS}(h1:cd es=true)(h2:bJ p=true)(h3:cC rs=true):aB ⟨es,p,rs⟩=true:=by
 unfold aB;dsimp only;rw[h1,h2,h3];rfl
theorem eX (W w:World)(L:List As)(r:Nat)(A:Option Addr)(c:Nat)(bs:List UInt8)(at_:Nat)(mo:Int)(O:Sat W w (gU r A c bs at_ true 0::L))(hat:at_≤bs.length)(hb:bs.length≤140737488355328)(hR:∀w,Sat W w L→Rd w 1 (.slice A bs.length c) bs.length (bs.map ai)):Calls Tryz.prog 103 #[.pointer (some ⟨r,0,none⟩),.int .i64 mo] w fun e w'=>
 (∃(s:List UInt8) (at':Nat) (A':Option Addr) (c':Nat),dh mo (bs.drop at_)=some (s,bs.drop at')∧at'≤bs.length∧s.length≤bs.length∧e=.returned (.slice A' s.length c')∧Sat W w' (gU r A c bs (at':Int) true 0::row 5 1 (.slice A' (s).length c') (s).length ((s).map ai)::L))∨(dh mo (bs.drop at_)=none∧xv (.iface 271 (.agg #[.pointer (some ⟨r,0,none⟩)])) e∧∃at' er:Int,er≠0∧Sat W w' (gU r A c bs at' true er::L)):=
 (w9 W w L r A c bs at_ mo O hat hb hR).mono fun e w' h=>by
  rcases h with ⟨h0,A',c',he,hs⟩ | ⟨h0,hp,at',hs⟩
  ·
   have hl:=Cf (bs:=bs) (i:=at_) (mo:=mo);obtain⟨s,a,hu,h1,h2⟩:=Kc h0;rw[hu]at he hs hl;exact .inl ⟨s,a,A',c',h1,h2,hl,he,hs⟩
  ·
   exact .inr ⟨wx h0,hp,at',_,by omega,hs⟩
def HW (k:Nat)(bs:List UInt8)(b8:Nat)(L:List As)(at' err:Int)(ok:Bool)(M:List As):Prop:=(ok=true∧err=0∧∃(v:Nat) (r0 r1 r2 f0 f1 f2:List UInt8) (n:Nat) (A0 A1 A2:Option Addr) (c0 c1 c2:Nat),at'=(n:Int)∧v=k∧bM 2 bs=some (v,r0)∧dh 9223372036854775807 r0=some (f0,r1)∧dh 9223372036854775807 r1=some (f1,r2)∧dh 9223372036854775807 r2=some (f2,bs.drop n)∧n≤bs.length∧f0.length≤bs.length∧f1.length≤bs.length∧f2.length≤bs.length∧M=a6 b8 (.cells #[.slice A0 f0.length c0,.slice A1 f1.length c1,.slice A2 f2.length c2] 307)::row 5 1 (.slice A0 (f0).length c0) (f0).length ((f0).map ai)::row 5 1 (.slice A1 (f1).length c1) (f1).length ((f1).map ai)::row 5 1 (.slice A2 (f2).length c2) (f2).length ((f2).map ai)::L)∨(ok=false∧err≠0∧(∀f,ry k f bs)∧M=L)
theorem yZ (W w:World)(L:List As)(r q p b3 b8 k:Nat)(A:Option Addr)(c:Nat)(bs:List UInt8)(O:Sat W w (gU r A c bs 0 true 0::iq q r::gV p 0::a6 b8 (.cells #[.slice none 0 0,.slice none 0 0,.slice none 0 0] 307)::a6 b3 (.cells #[.int .i64 (k:Int)] 3)::L))(hk:k≤2)(hb:bs.length≤1000000000000)(hR:Rd W 1 (.slice A bs.length c) bs.length (bs.map ai)):Calls Tryz.prog 364 #[.pointer (some ⟨r,0,none⟩),.pointer (some ⟨b3,0,none⟩),.pointer (some ⟨b8,0,none⟩)] w fun e w'=>∃(at' err:Int) (ok:Bool) (M:List As),AX r ok e∧Sat W w' (gU r A c bs at' true err::iq q r::gV p 0::M)∧HW k bs b8 L at' err ok M:=by
 refine bP Tryz.func364 [0,1,2] ?_;have hL:bs.length≤9223372036854775807:=(by omega);refine uC 2 ?_;intro a I;refine ja [] (lq W (iq q r::gV p 0::a6 b8 (.cells #[.slice none 0 0,.slice none 0 0,.slice none 0 0] 307)::a6 b3 (.cells #[.int .i64 (k:Int)] 3)::L)) (by kernel_rfl) ?_;replace O:=O.drew;refine rX [0] I ?_;clear I a;refine cP 2 [] rfl (by exact⟨[_],O⟩) (fun w hT=>have O:=hT.sat;(ld rfl)) ?_;intro a I;refine aD 1 (by kernel_rfl) ?_;refine GD I rfl rfl gO rfl (cg _ _ _ r A c bs 0 2 O (by omega) (by omega) (fun w h=>hR.sat h)) ?_;rintro e w (⟨v6,at6,hn6,ha6,hv6,hw6,rfl,hS'⟩ | ⟨hn6,⟨older,rfl,ho⟩,at',er,hne,hS'⟩)
 rotate_left 1
 ·refine .inr ⟨_,rfl,?_⟩;refine rE 2 I ?_;clear I a;intro a I;refine db I ?_;clear O;have O:=hS';clear hS';exact⟨at',er,false,_,.inr ⟨rfl,.inl ⟨older,rfl,ho⟩⟩,((O.p 3).drop.p 3).drop,.inr ⟨rfl,hne,fun f=>Kq hk hL hn6,rfl⟩⟩
 clear O;have O:=hS';clear hS';refine .inl ⟨_,rfl,?_⟩;clear I a;intro a I;refine⟨.inr fun _=>(by exact⟨[_],O⟩),?_⟩;refine K.GX 3 I pk rfl rfl rfl rfl (by kernel_rfl) (by kernel_rfl) (by kernel_rfl) (fun w=>(aG (I.ev rfl) (I.ev rfl))) ?_ ?_
 ·clear I a;intro h8;intro a I;refine ah (by kernel_rfl) ?_ _;refine rE 4 I ?_;clear I a;intro a I;refine dX I rfl lR rfl (cQ _ _ _ r A c bs at6 8 O (by omega) (by omega) (fun w h=>hR.sat h)) ?_;rintro e w ⟨⟨older,rfl,ho⟩,at',hS'⟩
  ·refine .inr ⟨_,rfl,?_⟩;refine rE 1 I ?_;clear I a;intro a I;refine db I ?_;clear O;have O:=hS';clear hS';exact⟨at',8,false,_,.inr ⟨rfl,.inl ⟨older,rfl,ho⟩⟩,((O.p 3).drop.p 3).drop,.inr ⟨rfl,by decide,fun f=>Kp hk hL hn6 h8,rfl⟩⟩
 ·clear I a;intro h8;intro a I;refine ah (by kernel_rfl) ?_ _;refine rE 10 I ?_;clear I a;intro a I;refine wp_loop_rounds 4 ?_;refine a8 ?_;refine rC 2 I ?_;clear I a;refine u1 17 (et (aq rfl rfl) (by omega)) ?_;intro a I;refine dX I rfl tD rfl (eX _ _ _ r A c bs at6 9223372036854775807 O (by omega) (by omega) (fun w h=>hR.sat h)) ?_;rintro e w (⟨f0,af0,A0,c0,hf0,haf0,hlf0,rfl,hS'⟩ | ⟨hf0,⟨older,rfl,ho⟩,at',er,hne,hS'⟩)
  ·clear O;have O:=hS';clear hS';refine .inl ⟨_,rfl,?_⟩;clear I a;refine u1 0 (iA rfl rfl pC jC) ?_;intro a I;refine mf (cs':=[_,_,_]) I rfl rfl nH jC rfl (O.p 4) rfl rfl ?_;clear O;intro w O;refine rO 4 I ?_;clear I a;refine u1 2 (aH (ad rfl rfl) (show _=Value.int .i64 1 from rfl)) ?_;intro a I;refine a8 ?_;refine rC 2 I ?_;clear I a;refine u1 17 (et (aq rfl rfl) (by omega)) ?_;intro a I;refine dX I rfl tD rfl (eX _ _ _ r A c bs af0 9223372036854775807 (O.p 1) (by omega) (by omega) (fun w h=>hR.sat h)) ?_;rintro e w (⟨f1,af1,A1,c1,hf1,haf1,hlf1,rfl,hS'⟩ | ⟨hf1,⟨older,rfl,ho⟩,at',er,hne,hS'⟩)
   ·clear O;have O:=hS';clear hS';refine .inl ⟨_,rfl,?_⟩;clear I a;refine u1 0 (iA rfl rfl pC jC) ?_;intro a I;refine mf (cs':=[_,_,_]) I rfl rfl nH jC rfl (O.p 2) rfl rfl ?_;clear O;intro w O;refine rO 4 I ?_;clear I a;refine u1 2 (aH (ad rfl rfl) (show _=Value.int .i64 2 from rfl)) ?_;intro a I;refine a8 ?_;refine rC 2 I ?_;clear I a;refine u1 17 (et (aq rfl rfl) (by omega)) ?_;intro a I;refine dX I rfl tD rfl (eX _ _ _ r A c bs af1 9223372036854775807 (O.p 1) (by omega) (by omega) (fun w h=>hR.sat h)) ?_;rintro e w (⟨f2,af2,A2,c2,hf2,haf2,hlf2,rfl,hS'⟩ | ⟨hf2,⟨older,rfl,ho⟩,at',er,hne,hS'⟩)
    ·clear O;have O:=hS';clear hS';refine .inl ⟨_,rfl,?_⟩;clear I a;refine u1 0 (iA rfl rfl pC jC) ?_;intro a I;refine mf (cs':=[_,_,_]) I rfl rfl nH jC rfl (O.p 2) rfl rfl ?_;clear O;intro w O;refine rO 4 I ?_;clear I a;refine u1 2 (aH (ad rfl rfl) (show _=Value.int .i64 3 from rfl)) ?_;intro a I;refine a8 ?_;refine rC 2 I ?_;clear I a;refine u1 8 (dY (aq rfl rfl) (by omega)) ?_;intro a I;refine fL (e:=.ret) ?_;refine ji I rfl  ?_;refine⟨(af2:Int),0,true,_,.inl ⟨rfl,rfl⟩,((((((((O.p 2).p 3).p 4).p 3).p 6).p 6).p 6).p 7).drop,.inl ⟨rfl,rfl,v6,_,_,_,f0,f1,f2,af2,A0,A1,A2,c0,c1,c2,rfl,by omega,hn6,hf0,hf1,hf2,haf2,hlf0,hlf1,hlf2,rfl⟩⟩
    ·refine .inr ⟨_,rfl,?_⟩;refine rE 4 I ?_;clear I a;intro a I;refine db I ?_;clear O;have O:=hS';clear hS';exact⟨at',er,false,_,.inr ⟨rfl,.inl ⟨older,rfl,ho⟩⟩,(((((((O.p 5).p 5).p 2).p 6).p 6).p 6).p 6).drop.drop.drop.drop,.inr ⟨rfl,hne,fun f=>Ks hk hL hn6 hf0 hf1 hf2,rfl⟩⟩
   ·refine .inr ⟨_,rfl,?_⟩;refine rE 4 I ?_;clear I a;intro a I;refine db I ?_;clear O;have O:=hS';clear hS';exact⟨at',er,false,_,.inr ⟨rfl,.inl ⟨older,rfl,ho⟩⟩,((((((O.p 4).p 4).p 2).p 5).p 5).p 5).drop.drop.drop,.inr ⟨rfl,hne,fun f=>Kx hk hL hn6 hf0 hf1,rfl⟩⟩
  ·refine .inr ⟨_,rfl,?_⟩;refine rE 4 I ?_;clear I a;intro a I;refine db I ?_;clear O;have O:=hS';clear hS';exact⟨at',er,false,_,.inr ⟨rfl,.inl ⟨older,rfl,ho⟩⟩,((O.p 3).drop.p 3).drop,.inr ⟨rfl,hne,fun f=>Kv hk hL hn6 hf0,rfl⟩⟩
theorem vy (W:World)(k:Nat)(A:Option Addr)(c:Nat)(bs:List UInt8)(hk:k≤2)(hb:bs.length≤16777216)(hR:Rd W 1 (.slice A bs.length c) bs.length (bs.map ai)):Calls Tryz.prog 350 #[.slice A (bs).length c,.int .i64 (k:Int)] W fun e w'=>(∃s:SL,bs=cq k s.d∧aB s.d=true∧j0 s∧e=.returned (.tuple #[.slice s.e.a s.e.es.length s.e.c,.agg #[.slice s.p.va s.p.d.vec.length s.p.vc,.slice s.p.ca s.p.d.ab.length s.p.cc],.slice s.r.a s.r.rs.length s.r.c,.bool true])∧Sat W w' [iX 216 s.e.a s.e.c s.e.es,cM 3 s.p.va s.p.vc s.p.d.vec,bH 219 s.p.ca s.p.cc s.p.d.ab,s.r.ch 206 3 219])∨((∀f:iW→Bool,(∀d,f d=true→aB d=true)→ry k f bs)∧∃(A1:Option Addr) (n1 c1:Nat) (z:PL) (A3:Option Addr) (n3 c3:Nat),e=.returned (.tuple #[.slice A1 n1 c1,.agg #[.slice z.va z.d.vec.length z.vc,.slice z.ca z.d.ab.length z.cc],.slice A3 n3 c3,.bool false])∧Sat W w' []):=by
 refine bP Tryz.func350 [0,1] ?_;have O:=Sat.start W;have hL:bs.length≤9223372036854775807:=(by omega);refine uC 2 ?_;refine uB rfl O ?_;clear O;intro b3 w O;refine uO 1 ?_;refine uN dK O ?_;clear O;intro b5 w O;refine uO 6 ?_;refine uN Ji O ?_;clear O;intro b8 w O;refine uO 5 ?_;intro a I;refine o1 0 I (qn (I.ml rfl)) ?_;clear I a;refine uF rfl (jk _ _ _ A c bs (fun _ at' err ok M=>HW k bs b8 [a6 b5 (.cells #[.slice none 0 0,.slice none 0 0] 63)] at' err ok M) 364 [.pointer (some ⟨b3,0,none⟩),.pointer (some ⟨b8,0,none⟩)] ((((O.p 1).p 2).p 2)) (by omega) I3 (fun w r q p O=>yZ _ _ _ r q p b3 b8 k A c bs O hk (by omega) hR)) ?_;rintro e w ⟨r9,q9,p9,at',err,ok,M,rfl,O,(⟨rfl,rfl,v6,r0,r1,r2,f0,f1,f2,n,A0,A1,A2,c0,c1,c2,rfl,hv,hn6,hf0,hf1,hf2,hnl,hl0,hl1,hl2,rfl⟩ | ⟨rfl,hne,hno,rfl⟩)⟩
 ·replace O:=O.drop.drop.drop;refine uO 7 ?_;refine aK 0 0 (aG rfl rfl) ?_ ?_
  ·intro h20;refine uO 5 ?_;intro a I;refine o1 1 I (aM I rfl BN) ?_;clear I a;refine uW (vs:=[_,_]) (cs':=[_,_]) rfl rfl bo (O.p 4) ?_;clear O;intro w O;refine uO 6 ?_;intro a I;refine pq I rfl (dm I rfl) (de (cs:=[_,_]) I rfl fu bo (by exact O.aF (xs:=[_,_]) rfl)) (dm I rfl) (dm I rfl) ?_;rw[lU rfl]at h20;refine .inr ⟨(fun f hff=>Gs hk hL hn6 hf0 hf1 hf2 fun d hd e3 e0 e1 e2=>(by have h9:=congrArg List.length e3;rw[List.length_drop]at h9;simp at h9 h20;omega)),_,_,_,⟨none,0,none,0,⟨[],[]⟩⟩,_,_,_,rfl,O.nil⟩
  ·intro h20;intro a I
   try (exfalso;rw[lh rfl,if_pos hne]at h20;exact h20 hne)
   refine rO 7 I ?_;clear I a;refine u1 0 (iA rfl rfl pC jC) ?_;refine u1 0 (ld rfl) ?_;refine uF rfl (rW _ A0 c0 f0 (by omega) (by exact (O.p 1).rd)) ?_;rintro e w (⟨Ae,ce,xs,hq0,hg0,hb0,rfl,hT⟩ | ⟨hno0,rfl,hT⟩)
   ·replace O:=O.au hT;clear hT;refine uO 1 ?_;refine u1 0 (an rfl rfl) ?_;refine u1 6 (an rfl rfl) ?_;refine u1 0 (iA rfl rfl pC jC) ?_;refine u1 0 (ld rfl) ?_;refine uF rfl (pe _ A1 c1 f1 (by omega) (by exact (O.p 3).rd)) ?_;rintro e w (⟨z,hq1,hg1,hb1,rfl,hT⟩ | ⟨hno1,rfl,hT⟩)
    ·replace O:Sat _ _ (_::_::_):=O.ag hT;clear hT;refine uO 1 ?_;refine u1 0 (an rfl rfl) ?_;refine u1 0 (an rfl rfl) ?_;refine uN dK O ?_;clear O;intro b12 w O;refine uW (vs:=[_,_]) (cs':=[_,_]) rfl rfl bo O ?_;clear O;intro w O;refine uO 3 ?_;intro a I;replace I:=I.kp [4,5,6,7,8,10,11,12,13] rfl;refine rC 2 I ?_;clear I a;refine u1 0 (iA rfl rfl pC jC) ?_;refine u1 0 (ld rfl) ?_;refine uF rfl (gy _ A2 c2 f2 (by omega) (by exact (O.p 7).rd)) ?_;rintro e w (⟨R,hq2,hg2,hb2,rfl,hT⟩ | ⟨hno2,rfl,hT⟩)
     ·replace O:=O.au hT;clear hT;refine uO 1 ?_;refine u1 0 (an rfl rfl) ?_;refine u1 5 (an rfl rfl) ?_;intro a I;refine bj [14] O (by kernel_rfl) ?_;replace O:=O.drew;refine rX [0] I ?_;clear I a;refine cP 1 [2,3] rfl (by exact⟨[],O⟩) (fun w hT=>have O:=hT.sat;(lS (cs:=[_,_]) rfl)) ?_;refine bx 4 [5,6] rfl (fun w=>(et (aY rfl rfl) (by omega))) ?_;refine bx 7 [8,9,10] rfl (fun w=>(et (aY rfl rfl) (by omega))) ?_;refine bx 11 [12,13] rfl (fun w=>(et (aY rfl rfl) (by omega))) ?_;intro a I;refine aD 14 (by kernel_rfl) ?_;refine dr (vs:=[_,_]) (cs':=[_,_]) I rfl rfl rfl bo (by simp[Value.oneCell']) (O.p 9) rfl rfl ?_;clear O;intro w O;refine⟨.inl rfl,?_⟩;refine rX [15,16] I ?_;clear I a;intro a I;refine ah (by kernel_rfl) ?_ _;refine rE 2 I ?_;clear I a;intro a I
      refine pq I rfl (dm I rfl) (de (cs:=[_,_]) I rfl fu bo (by exact O.aF (xs:=[_,_]) rfl)) (dm I rfl) (dm I rfl) ?_;rw[lU rfl]at h20;have hn9:bs.drop n=[]:=List.drop_of_length_le (by simp at h20;omega);rw[hn9]at hf2;have hst:=H4 (d:=⟨xs,z.d,R.d⟩) hn6 hv hf0 hf1 hf2 hq0 hq1 hq2 (by show z.d.ab.length≤_;omega);have hz16:=((je (by omega)).1 hq1).2.len;have hbr:(bV R.d).length≤16777216:=by have:=(rA.1 hq2).1;rw[List.append_nil]at this;rw[←this];omega
      refine .inl ⟨⟨⟨Ae,ce,xs⟩,z,R⟩,hst,D7 hg0 hg1 hg2,⟨by show xs.length≤_;omega,by show z.d.vec.length≤_;omega,by show z.d.ab.length≤_;omega,fun r hr=>by have:=hb2.2 r hr;omega,?_⟩,rfl,?_⟩
      ·have:=zS R.d;rw[show R.d.map bS.bB=R.rs.map fun r=>r.p.d from gI R.rs]at this;show cO (R.rs.map fun r=>r.p.d)≤_;omega
      ·exact B9 ((((O.p 1).p 4).p 4).p 5)
     ·replace O:Sat _ _ _:=O.ag hT;clear hT;refine uO 1 ?_;refine u1 0 (an rfl rfl) ?_;refine u1 5 (an rfl rfl) ?_;intro a I;refine bj [14] O (by kernel_rfl) ?_;replace O:=O.drew;refine rX [0] I ?_;clear I a;refine cP 1 [2,3] rfl (by exact⟨[],O⟩) (fun w hT=>have O:=hT.sat;(lS (cs:=[_,_]) rfl)) ?_;refine bx 4 [5,6] rfl (fun w=>(et (aY rfl rfl) (by omega))) ?_;refine bx 7 [8,9,10] rfl (fun w=>(et (aY rfl rfl) (by omega))) ?_;refine bx 11 [12,13] rfl (fun w=>(dY (aY rfl rfl) (by omega))) ?_;intro a I;refine aD 14 (by kernel_rfl) ?_;refine dr (vs:=[_,_]) (cs':=[_,_]) I rfl rfl rfl bo (by simp[Value.oneCell']) (O.p 8) rfl rfl ?_;clear O;intro w O;refine⟨.inl rfl,?_⟩;refine rX [15,16] I ?_;clear I a;intro a I;refine ah (by kernel_rfl) ?_ _;refine rE 2 I ?_;clear I a;intro a I
      refine pq I rfl (dm I rfl) (de (cs:=[_,_]) I rfl fu bo (by exact O.aF (xs:=[_,_]) rfl)) (dm I rfl) (dm I rfl) ?_;refine .inr ⟨(fun f hff=>Gs hk hL hn6 hf0 hf1 hf2 fun d hd e3 e0 e1 e2=>(by subst e2;have hh:=hno2 d.lY (si (a7 (hff d hd)).2.2 (by omega));rw[(a7 (hff d hd)).2.2]at hh;cases hh)),_,_,_,z,_,_,_,rfl,O.nil⟩
    ·replace O:Sat _ _ _:=O.ag hT;clear hT;refine uO 1 ?_;refine u1 0 (an rfl rfl) ?_;refine u1 0 (an rfl rfl) ?_;refine uN dK O ?_;clear O;intro b12 w O;refine uW (vs:=[_,_]) (cs':=[_,_]) rfl rfl bo O ?_;clear O;intro w O;refine uO 3 ?_;intro a I;replace I:=I.kp [4,5,6,7,8,10,11,12,13] rfl;refine rC 2 I ?_;clear I a;refine u1 0 (iA rfl rfl pC jC) ?_;refine u1 0 (ld rfl) ?_;refine uF rfl (gy _ A2 c2 f2 (by omega) (by exact (O.p 5).rd)) ?_;rintro e w (⟨R,hq2,hg2,hb2,rfl,hT⟩ | ⟨hno2,rfl,hT⟩)
     ·replace O:=O.au hT;clear hT;refine uO 1 ?_;refine u1 0 (an rfl rfl) ?_;refine u1 5 (an rfl rfl) ?_;intro a I;refine bj [14] O (by kernel_rfl) ?_;replace O:=O.drew;refine rX [0] I ?_;clear I a;refine cP 1 [2,3] rfl (by exact⟨[],O⟩) (fun w hT=>have O:=hT.sat;(lS (cs:=[_,_]) rfl)) ?_;refine bx 4 [5,6] rfl (fun w=>(et (aY rfl rfl) (by omega))) ?_;refine bx 7 [8,9,10,11,12,13] rfl (fun w=>(dY (aY rfl rfl) (by omega))) ?_;intro a I;refine aD 14 (by kernel_rfl) ?_;refine dr (vs:=[_,_]) (cs':=[_,_]) I rfl rfl rfl bo (by simp[Value.oneCell']) (O.p 7) rfl rfl ?_;clear O;intro w O;refine⟨.inl rfl,?_⟩;refine rX [15,16] I ?_;clear I a;intro a I;refine ah (by kernel_rfl) ?_ _;refine rE 2 I ?_;clear I a;intro a I
      refine pq I rfl (dm I rfl) (de (cs:=[_,_]) I rfl fu bo (by exact O.aF (xs:=[_,_]) rfl)) (dm I rfl) (dm I rfl) ?_;refine .inr ⟨(fun f hff=>Gs hk hL hn6 hf0 hf1 hf2 fun d hd e3 e0 e1 e2=>(by subst e1;have hh:=hno1 d.bB (oX (a7 (hff d hd)).2.1 (oY hl1));rw[(a7 (hff d hd)).2.1]at hh;cases hh)),_,_,_,⟨none,0,none,0,⟨[],[]⟩⟩,_,_,_,rfl,O.nil⟩
     ·replace O:Sat _ _ _:=O.ag hT;clear hT;refine uO 1 ?_;refine u1 0 (an rfl rfl) ?_;refine u1 5 (an rfl rfl) ?_;intro a I;refine bj [14] O (by kernel_rfl) ?_;replace O:=O.drew;refine rX [0] I ?_;clear I a;refine cP 1 [2,3] rfl (by exact⟨[],O⟩) (fun w hT=>have O:=hT.sat;(lS (cs:=[_,_]) rfl)) ?_;refine bx 4 [5,6] rfl (fun w=>(et (aY rfl rfl) (by omega))) ?_;refine bx 7 [8,9,10,11,12,13] rfl (fun w=>(dY (aY rfl rfl) (by omega))) ?_;intro a I;refine aD 14 (by kernel_rfl) ?_;refine dr (vs:=[_,_]) (cs':=[_,_]) I rfl rfl rfl bo (by simp[Value.oneCell']) (O.p 6) rfl rfl ?_;clear O;intro w O;refine⟨.inl rfl,?_⟩;refine rX [15,16] I ?_;clear I a;intro a I;refine ah (by kernel_rfl) ?_ _;refine rE 2 I ?_;clear I a;intro a I
      refine pq I rfl (dm I rfl) (de (cs:=[_,_]) I rfl fu bo (by exact O.aF (xs:=[_,_]) rfl)) (dm I rfl) (dm I rfl) ?_;refine .inr ⟨(fun f hff=>Gs hk hL hn6 hf0 hf1 hf2 fun d hd e3 e0 e1 e2=>(by subst e1;have hh:=hno1 d.bB (oX (a7 (hff d hd)).2.1 (oY hl1));rw[(a7 (hff d hd)).2.1]at hh;cases hh)),_,_,_,⟨none,0,none,0,⟨[],[]⟩⟩,_,_,_,rfl,O.nil⟩
   ·replace O:Sat _ _ _:=O.ag hT;clear hT;refine uO 1 ?_;refine u1 0 (an rfl rfl) ?_;refine u1 6 (an rfl rfl) ?_;refine u1 0 (iA rfl rfl pC jC) ?_;refine u1 0 (ld rfl) ?_;refine uF rfl (pe _ A1 c1 f1 (by omega) (by exact (O.p 2).rd)) ?_;rintro e w (⟨z,hq1,hg1,hb1,rfl,hT⟩ | ⟨hno1,rfl,hT⟩)
    ·replace O:Sat _ _ (_::_::_):=O.ag hT;clear hT;refine uO 1 ?_;refine u1 0 (an rfl rfl) ?_;refine u1 0 (an rfl rfl) ?_;refine uN dK O ?_;clear O;intro b12 w O;refine uW (vs:=[_,_]) (cs':=[_,_]) rfl rfl bo O ?_;clear O;intro w O;refine uO 3 ?_;intro a I;replace I:=I.kp [4,5,6,7,8,10,11,12,13] rfl;refine rC 2 I ?_;clear I a;refine u1 0 (iA rfl rfl pC jC) ?_;refine u1 0 (ld rfl) ?_;refine uF rfl (gy _ A2 c2 f2 (by omega) (by exact (O.p 6).rd)) ?_;rintro e w (⟨R,hq2,hg2,hb2,rfl,hT⟩ | ⟨hno2,rfl,hT⟩)
     ·replace O:=O.au hT;clear hT;refine uO 1 ?_;refine u1 0 (an rfl rfl) ?_;refine u1 5 (an rfl rfl) ?_;intro a I;refine bj [14] O (by kernel_rfl) ?_;replace O:=O.drew;refine rX [0] I ?_;clear I a;refine cP 1 [2,3] rfl (by exact⟨[],O⟩) (fun w hT=>have O:=hT.sat;(lS (cs:=[_,_]) rfl)) ?_;refine bx 4 [5,6,7,8,9,10,11,12,13] rfl (fun w=>(dY (aY rfl rfl) (by omega))) ?_;intro a I;refine aD 14 (by kernel_rfl) ?_;refine dr (vs:=[_,_]) (cs':=[_,_]) I rfl rfl rfl bo (by simp[Value.oneCell']) (O.p 8) rfl rfl ?_;clear O;intro w O;refine⟨.inl rfl,?_⟩;refine rX [15,16] I ?_;clear I a;intro a I;refine ah (by kernel_rfl) ?_ _;refine rE 2 I ?_;clear I a;intro a I;refine pq I rfl (dm I rfl) (de (cs:=[_,_]) I rfl fu bo (by exact O.aF (xs:=[_,_]) rfl)) (dm I rfl) (dm I rfl) ?_
      refine .inr ⟨(fun f hff=>Gs hk hL hn6 hf0 hf1 hf2 fun d hd e3 e0 e1 e2=>(by subst e0;have hh:=hno0 d.kL (kH (a7 (hff d hd)).1 (kF hl0));rw[(a7 (hff d hd)).1]at hh;cases hh)),_,_,_,z,_,_,_,rfl,O.nil⟩
     ·replace O:Sat _ _ _:=O.ag hT;clear hT;refine uO 1 ?_;refine u1 0 (an rfl rfl) ?_;refine u1 5 (an rfl rfl) ?_;intro a I;refine bj [14] O (by kernel_rfl) ?_;replace O:=O.drew;refine rX [0] I ?_;clear I a;refine cP 1 [2,3] rfl (by exact⟨[],O⟩) (fun w hT=>have O:=hT.sat;(lS (cs:=[_,_]) rfl)) ?_;refine bx 4 [5,6,7,8,9,10,11,12,13] rfl (fun w=>(dY (aY rfl rfl) (by omega))) ?_;intro a I;refine aD 14 (by kernel_rfl) ?_;refine dr (vs:=[_,_]) (cs':=[_,_]) I rfl rfl rfl bo (by simp[Value.oneCell']) (O.p 7) rfl rfl ?_;clear O;intro w O;refine⟨.inl rfl,?_⟩;refine rX [15,16] I ?_;clear I a;intro a I;refine ah (by kernel_rfl) ?_ _;refine rE 2 I ?_;clear I a;intro a I;refine pq I rfl (dm I rfl) (de (cs:=[_,_]) I rfl fu bo (by exact O.aF (xs:=[_,_]) rfl)) (dm I rfl) (dm I rfl) ?_
      refine .inr ⟨(fun f hff=>Gs hk hL hn6 hf0 hf1 hf2 fun d hd e3 e0 e1 e2=>(by subst e0;have hh:=hno0 d.kL (kH (a7 (hff d hd)).1 (kF hl0));rw[(a7 (hff d hd)).1]at hh;cases hh)),_,_,_,z,_,_,_,rfl,O.nil⟩
    ·replace O:Sat _ _ _:=O.ag hT;clear hT;refine uO 1 ?_;refine u1 0 (an rfl rfl) ?_;refine u1 0 (an rfl rfl) ?_;refine uN dK O ?_;clear O;intro b12 w O;refine uW (vs:=[_,_]) (cs':=[_,_]) rfl rfl bo O ?_;clear O;intro w O;refine uO 3 ?_;intro a I;replace I:=I.kp [4,5,6,7,8,10,11,12,13] rfl;refine rC 2 I ?_;clear I a;refine u1 0 (iA rfl rfl pC jC) ?_;refine u1 0 (ld rfl) ?_;refine uF rfl (gy _ A2 c2 f2 (by omega) (by exact (O.p 4).rd)) ?_;rintro e w (⟨R,hq2,hg2,hb2,rfl,hT⟩ | ⟨hno2,rfl,hT⟩)
     ·replace O:=O.au hT;clear hT;refine uO 1 ?_;refine u1 0 (an rfl rfl) ?_;refine u1 5 (an rfl rfl) ?_;intro a I;refine bj [14] O (by kernel_rfl) ?_;replace O:=O.drew;refine rX [0] I ?_;clear I a;refine cP 1 [2,3] rfl (by exact⟨[],O⟩) (fun w hT=>have O:=hT.sat;(lS (cs:=[_,_]) rfl)) ?_;refine bx 4 [5,6,7,8,9,10,11,12,13] rfl (fun w=>(dY (aY rfl rfl) (by omega))) ?_;intro a I;refine aD 14 (by kernel_rfl) ?_;refine dr (vs:=[_,_]) (cs':=[_,_]) I rfl rfl rfl bo (by simp[Value.oneCell']) (O.p 6) rfl rfl ?_;clear O;intro w O;refine⟨.inl rfl,?_⟩;refine rX [15,16] I ?_;clear I a;intro a I;refine ah (by kernel_rfl) ?_ _;refine rE 2 I ?_;clear I a;intro a I;refine pq I rfl (dm I rfl) (de (cs:=[_,_]) I rfl fu bo (by exact O.aF (xs:=[_,_]) rfl)) (dm I rfl) (dm I rfl) ?_
      refine .inr ⟨(fun f hff=>Gs hk hL hn6 hf0 hf1 hf2 fun d hd e3 e0 e1 e2=>(by subst e0;have hh:=hno0 d.kL (kH (a7 (hff d hd)).1 (kF hl0));rw[(a7 (hff d hd)).1]at hh;cases hh)),_,_,_,⟨none,0,none,0,⟨[],[]⟩⟩,_,_,_,rfl,O.nil⟩
     ·replace O:Sat _ _ _:=O.ag hT;clear hT;refine uO 1 ?_;refine u1 0 (an rfl rfl) ?_;refine u1 5 (an rfl rfl) ?_;intro a I;refine bj [14] O (by kernel_rfl) ?_;replace O:=O.drew;refine rX [0] I ?_;clear I a;refine cP 1 [2,3] rfl (by exact⟨[],O⟩) (fun w hT=>have O:=hT.sat;(lS (cs:=[_,_]) rfl)) ?_;refine bx 4 [5,6,7,8,9,10,11,12,13] rfl (fun w=>(dY (aY rfl rfl) (by omega))) ?_;intro a I;refine aD 14 (by kernel_rfl) ?_;refine dr (vs:=[_,_]) (cs':=[_,_]) I rfl rfl rfl bo (by simp[Value.oneCell']) (O.p 5) rfl rfl ?_;clear O;intro w O;refine⟨.inl rfl,?_⟩;refine rX [15,16] I ?_;clear I a;intro a I;refine ah (by kernel_rfl) ?_ _;refine rE 2 I ?_;clear I a;intro a I;refine pq I rfl (dm I rfl) (de (cs:=[_,_]) I rfl fu bo (by exact O.aF (xs:=[_,_]) rfl)) (dm I rfl) (dm I rfl) ?_
      refine .inr ⟨(fun f hff=>Gs hk hL hn6 hf0 hf1 hf2 fun d hd e3 e0 e1 e2=>(by subst e0;have hh:=hno0 d.kL (kH (a7 (hff d hd)).1 (kF hl0));rw[(a7 (hff d hd)).1]at hh;cases hh)),_,_,_,⟨none,0,none,0,⟨[],[]⟩⟩,_,_,_,rfl,O.nil⟩
 ·replace O:=O.drop.drop.drop;refine uO 7 ?_;refine aK 0 0 (aG rfl rfl) ?_ ?_
  ·intro h20;refine uO 5 ?_;intro a I;refine o1 1 I (aM I rfl BN) ?_;clear I a;refine uW (vs:=[_,_]) (cs':=[_,_]) rfl rfl bo O ?_;clear O;intro w O;refine uO 6 ?_;intro a I;refine pq I rfl (dm I rfl) (de (cs:=[_,_]) I rfl fu bo (by exact O.aF (xs:=[_,_]) rfl)) (dm I rfl) (dm I rfl) ?_;refine .inr ⟨(fun f _=>hno f),_,_,_,⟨none,0,none,0,⟨[],[]⟩⟩,_,_,_,rfl,O.nil⟩
  ·intro h20;intro a I
   try (exfalso;rw[lh rfl,if_pos hne]at h20;exact h20 hne)
theorem SL.uh {W w:World}{L:List As}{s:SL}{ee ei es er:Nat}(h:Sat W w (iX ee s.e.a s.e.c s.e.es::cM ei s.p.va s.p.vc s.p.d.vec::bH es s.p.ca s.p.cc s.p.d.ab::s.r.ch er ei es::L)):s.ok w:=
 ⟨h.rd,⟨(h.p 1).rd,(h.p 2).rd⟩,jr.uh (h.p 3)⟩
theorem tT {k:Nat}{s d:iW}(hk:k≤2)(hs:aB s=true)(hd:aB d=true)(hL:(cq k s).length≤9223372036854775807)(h:cq k s=cq k d):s=d:=by
 obtain⟨r0,r1,r2,a0,a1,a2,a3⟩:=lE (d:=s) hk hL;rw[h]at hL;obtain⟨q0,q1,q2,b0,b1,b2,b3⟩:=lE (d:=d) hk hL;have hl:(cq k d).length=(aE k).length+((aE (cI d.kL).length).length+(cI d.kL).length+((aE (cB d.bB).length).length+(cB d.bB).length+((aE (bV d.lY).length).length+(bV d.lY).length))):=by unfold cq fr;simp only[List.length_append]
 rw[h,b0]at a0;cases a0;rw[b1]at a1;injection a1 with a1;obtain⟨e1,rfl⟩:=Prod.mk.inj a1
 rw[b2]at a2;injection a2 with a2;obtain⟨e2,rfl⟩:=Prod.mk.inj a2
 rw[b3]at a3;injection a3 with a3;obtain⟨e3,_⟩:=Prod.mk.inj a3
 obtain⟨s1,s2,s3⟩:=a7 hs;obtain⟨d1,d2,d3⟩:=a7 hd;have f1:=kH s1 (kF (n:=9223372036854775807) (by rw[←e1];omega));have f2:=oX s2 (oY (n:=9223372036854775807) (by rw[←e2];omega));have f3:=si s3 (by rw[←e3];omega);have g1:=kH d1 (kF (n:=9223372036854775807) (by omega));have g2:=oX d2 (oY (n:=9223372036854775807) (by omega));have g3:=si d3 (by omega);rw[←e1,g1]at f1;rw[←e2,g2]at f2;rw[←e3,g3]at f3
 injection f1 with f1
 injection f2 with f2
 injection f3 with f3
 exact EA (Prod.mk.inj f1).1.symm (Prod.mk.inj f2).1.symm (Prod.mk.inj f3).1.symm
theorem vl (W:World)(A:Option Addr)(c:Nat)(bs:List UInt8)(hb:bs.length≤16777216)(hR:Rd W 1 (.slice A bs.length c) bs.length (bs.map ai)):Calls Tryz.prog 430 #[.slice A (bs).length c] W fun e w'=>(∃s:SL,bs=cq 1 s.d∧aB s.d=true∧j0 s∧e=.returned (.tuple #[.agg #[.slice s.e.a s.e.es.length s.e.c,.slice s.p.va s.p.d.vec.length s.p.vc,.slice s.p.ca s.p.d.ab.length s.p.cc,.slice s.r.a s.r.rs.length s.r.c],.int .i64 0])∧Sat W w' [iX 216 s.e.a s.e.c s.e.es,cM 3 s.p.va s.p.vc s.p.d.vec,bH 219 s.p.ca s.p.cc s.p.d.ab,s.r.ch 206 3 219])∨(ry 1 aB bs∧e=.returned (.tuple #[.agg #[.slice none 0 0,.slice none 0 0,.slice none 0 0,.slice none 0 0],.int .i64 8])∧Sat W w' []):=by
 refine bP Tryz.func430 [0] ?_;have O:=Sat.start W;refine uC 2 ?_;refine uN vH O ?_;clear O;intro b2 w O;refine uO 6 ?_;refine uF rfl (vy _ 1 A c bs (by decide) hb (hR.sat O)) ?_;rintro e w (⟨s,hst,hfb,hsm,rfl,hT⟩ | ⟨hno,A1,n1,c1,z,A3,n3,c3,rfl,hT⟩)
 ·replace O:Sat _ _ (_::_::_::_::_):=O.ag hT;clear hT;refine uO 1 ?_;refine u1 0 (an rfl rfl) ?_;refine u1 0 (an rfl rfl) ?_;refine u1 0 (an rfl rfl) ?_;refine ng 0 0 (an rfl rfl) ?_ ?_
  ·intro h15;intro a I;simp only[decide_eq_decide,decide_eq_true_eq,decide_eq_false_iff_not,Bool.not_eq_true',Bool.not_eq_false',bne_iff_ne,ne_eq,beq_iff_eq,Bool.not_eq_true,Bool.not_eq_false]at h15;refine goN I rfl dK O ?_;clear I a O;intro b5 w O;refine uO 1 ?_;refine uW (vs:=[_,_]) (cs':=[_,_]) rfl rfl bo O ?_;clear O;intro w O;refine uO 7 ?_;refine u1 1 (lS (cs:=[_,_]) rfl) ?_;intro a I;refine o1 0 I (aM I rfl nb) ?_;clear I a;refine uN vH O ?_;clear O;intro b8 w O;refine uW (vs:=[_,_,_,_]) (cs':=[_,_,_,_]) rfl rfl ke O ?_;clear O;intro w O;refine uO 6 ?_;refine u1 1 (aI rfl) ?_;refine u1 0 (lS (cs:=[_,_,_,_]) rfl) ?_;refine jR rfl (qO _ s (SL.uh ((((O.p 5).p 5).p 5).p 5)) hsm) ?_;rintro e w ⟨rfl,hT⟩;replace O:Sat _ _ _:=O.ag hT;clear hT;cases h24:aB s.d
   ·rw[if_neg (by decide)];refine aK 0 0 (aG rfl rfl) ?_ ?_
    ·intro h25;refine uO 6 ?_;intro a I;refine o1 0 I (aM I rfl GL) ?_;clear I a;refine uW (vs:=[_,_,_,_]) (cs':=[_,_,_,_]) rfl rfl ke (O.p 6) ?_;clear O;intro w O;refine uO 3 ?_;intro a I;replace I:=I.kp [2,3,8] rfl;refine rC 2 I ?_;clear I a;intro a I;refine eu I rfl (de (cs:=[_,_,_,_]) I rfl x5 ke (by exact O.aF (xs:=[_,_,_,_]) rfl)) (dm I rfl) ?_;refine .inr ⟨fun d hd e=>?_,rfl,O.nil⟩;have:=tT (by decide) hfb hd (by rw[←hst];omega) (hst.symm.trans e);rw[this,hd]at h24;cases h24
    ·intro h25;intro a I;contradiction
   ·rw[if_pos rfl];refine aK 0 0 (aG rfl rfl) ?_ ?_
    ·intro h25;intro a I;contradiction
    ·intro h25;refine uO 6 ?_;intro a I;replace I:=I.kp [2,3,8] rfl;refine rC 2 I ?_;clear I a;refine u1 0 (lS (cs:=[_,_,_,_]) rfl) ?_;refine uW (vs:=[_,_,_,_]) (cs':=[_,_,_,_]) rfl rfl ke (O.p 6) ?_;clear O;intro w O;refine uO 4 ?_;intro a I;refine eu I rfl (de (cs:=[_,_,_,_]) I rfl x5 ke (by exact O.aF (xs:=[_,_,_,_]) rfl)) (dm I rfl) ?_;exact .inl ⟨s,hst,h24,hsm,rfl,B9 ((((O.p 6).p 6).p 6).p 6)⟩
  ·intro h15;intro a I;contradiction
 ·replace O:Sat _ _ _:=O.ag hT;clear hT;refine uO 1 ?_;refine u1 0 (an rfl rfl) ?_;refine u1 0 (an rfl rfl) ?_;refine u1 0 (an rfl rfl) ?_;refine ng 0 0 (an rfl rfl) ?_ ?_
  ·intro h15;intro a I;contradiction
  ·intro h15;intro a I;simp only[decide_eq_decide,decide_eq_true_eq,decide_eq_false_iff_not,Bool.not_eq_true',Bool.not_eq_false',bne_iff_ne,ne_eq,beq_iff_eq,Bool.not_eq_true,Bool.not_eq_false]at h15;refine goN I rfl dK O ?_;clear I a O;intro b5 w O;refine uO 1 ?_;refine uW (vs:=[_,_]) (cs':=[_,_]) rfl rfl bo O ?_;clear O;intro w O;refine uO 7 ?_;refine u1 1 (lS (cs:=[_,_]) rfl) ?_;intro a I;refine o1 0 I (aM I rfl nb) ?_;clear I a;refine uN vH O ?_;clear O;intro b8 w O;refine uW (vs:=[_,_,_,_]) (cs':=[_,_,_,_]) rfl rfl ke O ?_;clear O;intro w O;refine uO 6 ?_;refine u1 10 (aI rfl) ?_;intro a I;refine o1 0 I (aM I rfl GL) ?_;clear I a;refine uW (vs:=[_,_,_,_]) (cs':=[_,_,_,_]) rfl rfl ke (O.p 2) ?_;clear O;intro w O;refine uO 3 ?_;intro a I;replace I:=I.kp [2,3,8] rfl;refine rC 2 I ?_;clear I a;intro a I
   refine eu I rfl (de (cs:=[_,_,_,_]) I rfl x5 ke (by exact O.aF (xs:=[_,_,_,_]) rfl)) (dm I rfl) ?_;exact .inr ⟨hno aB (fun d hd=>hd),rfl,O.nil⟩
theorem vP (W:World)(A:Option Addr)(c:Nat)(bs:List UInt8)(hb:bs.length≤16777216)(hR:Rd W 1 (.slice A bs.length c) bs.length (bs.map ai)):Calls Tryz.prog 339 #[.slice A (bs).length c] W fun e w'=>(∃s:SL,bs=cq 2 s.d∧bz s.d=true∧j0 s∧e=.returned (.tuple #[.agg #[.slice s.e.a s.e.es.length s.e.c,.slice s.p.va s.p.d.vec.length s.p.vc,.slice s.p.ca s.p.d.ab.length s.p.cc,.slice s.r.a s.r.rs.length s.r.c],.int .i64 0])∧Sat W w' [iX 216 s.e.a s.e.c s.e.es,cM 3 s.p.va s.p.vc s.p.d.vec,bH 219 s.p.ca s.p.cc s.p.d.ab,s.r.ch 206 3 219])∨(ry 2 bz bs∧e=.returned (.tuple #[.agg #[.slice none 0 0,.slice none 0 0,.slice none 0 0,.slice none 0 0],.int .i64 8])∧Sat W w' []):=by
 refine bP Tryz.func339 [0] ?_;have O:=Sat.start W;refine uC 2 ?_;refine uN yW O ?_;clear O;intro b2 w O;refine uO 6 ?_;refine uF rfl (vy _ 2 A c bs (by decide) hb (hR.sat O)) ?_;rintro e w (⟨s,hst,hfb,hsm,rfl,hT⟩ | ⟨hno,A1,n1,c1,z,A3,n3,c3,rfl,hT⟩)
 ·replace O:Sat _ _ (_::_::_::_::_):=O.ag hT;clear hT;refine uO 1 ?_;refine u1 0 (an rfl rfl) ?_;refine u1 0 (an rfl rfl) ?_;refine u1 0 (an rfl rfl) ?_;refine ng 0 0 (an rfl rfl) ?_ ?_
  ·intro h15;intro a I;simp only[decide_eq_decide,decide_eq_true_eq,decide_eq_false_iff_not,Bool.not_eq_true',Bool.not_eq_false',bne_iff_ne,ne_eq,beq_iff_eq,Bool.not_eq_true,Bool.not_eq_false]at h15;refine goN I rfl dK O ?_;clear I a O;intro b5 w O;refine uO 1 ?_;refine uW (vs:=[_,_]) (cs':=[_,_]) rfl rfl bo O ?_;clear O;intro w O;refine uO 7 ?_;refine u1 1 (lS (cs:=[_,_]) rfl) ?_;intro a I;refine o1 0 I (aM I rfl tG) ?_;clear I a;refine uN yW O ?_;clear O;intro b8 w O;refine uW (vs:=[_,_,_,_]) (cs':=[_,_,_,_]) rfl rfl lv O ?_;clear O;intro w O;refine uO 6 ?_;refine u1 1 (aI rfl) ?_;refine u1 0 (lS (cs:=[_,_,_,_]) rfl) ?_;refine jR rfl (rf _ s (SL.uh ((((O.p 5).p 5).p 5).p 5)) hsm) ?_;rintro e w ⟨rfl,hT⟩;replace O:Sat _ _ _:=O.ag hT;clear hT;cases h24:bz s.d
   ·rw[if_neg (by decide)];refine aK 0 0 (aG rfl rfl) ?_ ?_
    ·intro h25;refine uO 6 ?_;intro a I;refine o1 0 I (aM I rfl GF) ?_;clear I a;refine uW (vs:=[_,_,_,_]) (cs':=[_,_,_,_]) rfl rfl lv (O.p 6) ?_;clear O;intro w O;refine uO 3 ?_;intro a I;replace I:=I.kp [2,3,8] rfl;refine rC 2 I ?_;clear I a;intro a I;refine eu I rfl (de (cs:=[_,_,_,_]) I rfl x4 lv (by exact O.aF (xs:=[_,_,_,_]) rfl)) (dm I rfl) ?_;refine .inr ⟨fun d hd e=>?_,rfl,O.nil⟩;have:=tT (by decide) hfb (dZ hd) (by rw[←hst];omega) (hst.symm.trans e);rw[this,hd]at h24;cases h24
    ·intro h25;intro a I;contradiction
   ·rw[if_pos rfl];refine aK 0 0 (aG rfl rfl) ?_ ?_
    ·intro h25;intro a I;contradiction
    ·intro h25;refine uO 6 ?_;intro a I;replace I:=I.kp [2,3,8] rfl;refine rC 2 I ?_;clear I a;refine u1 0 (lS (cs:=[_,_,_,_]) rfl) ?_;refine uW (vs:=[_,_,_,_]) (cs':=[_,_,_,_]) rfl rfl lv (O.p 6) ?_;clear O;intro w O;refine uO 4 ?_;intro a I;refine eu I rfl (de (cs:=[_,_,_,_]) I rfl x4 lv (by exact O.aF (xs:=[_,_,_,_]) rfl)) (dm I rfl) ?_;exact .inl ⟨s,hst,h24,hsm,rfl,B9 ((((O.p 6).p 6).p 6).p 6)⟩
  ·intro h15;intro a I;contradiction
 ·replace O:Sat _ _ _:=O.ag hT;clear hT;refine uO 1 ?_;refine u1 0 (an rfl rfl) ?_;refine u1 0 (an rfl rfl) ?_;refine u1 0 (an rfl rfl) ?_;refine ng 0 0 (an rfl rfl) ?_ ?_
  ·intro h15;intro a I;contradiction
  ·intro h15;intro a I;simp only[decide_eq_decide,decide_eq_true_eq,decide_eq_false_iff_not,Bool.not_eq_true',Bool.not_eq_false',bne_iff_ne,ne_eq,beq_iff_eq,Bool.not_eq_true,Bool.not_eq_false]at h15;refine goN I rfl dK O ?_;clear I a O;intro b5 w O;refine uO 1 ?_;refine uW (vs:=[_,_]) (cs':=[_,_]) rfl rfl bo O ?_;clear O;intro w O;refine uO 7 ?_;refine u1 1 (lS (cs:=[_,_]) rfl) ?_;intro a I;refine o1 0 I (aM I rfl tG) ?_;clear I a;refine uN yW O ?_;clear O;intro b8 w O;refine uW (vs:=[_,_,_,_]) (cs':=[_,_,_,_]) rfl rfl lv O ?_;clear O;intro w O;refine uO 6 ?_;refine u1 10 (aI rfl) ?_;intro a I;refine o1 0 I (aM I rfl GF) ?_;clear I a;refine uW (vs:=[_,_,_,_]) (cs':=[_,_,_,_]) rfl rfl lv (O.p 2) ?_;clear O;intro w O;refine uO 3 ?_;intro a I;replace I:=I.kp [2,3,8] rfl;refine rC 2 I ?_;clear I a;intro a I
   refine eu I rfl (de (cs:=[_,_,_,_]) I rfl x4 lv (by exact O.aF (xs:=[_,_,_,_]) rfl)) (dm I rfl) ?_;exact .inr ⟨hno bz (fun d hd=>dZ hd),rfl,O.nil⟩
theorem lW (W:World)(A:Option Addr)(c:Nat)(bs:List UInt8)(hb:bs.length≤16777216)(hR:Rd W 1 (.slice A bs.length c) bs.length (bs.map ai)):Calls Tryz.prog 425 #[.agg #[],.slice A (bs).length c] W fun e w'=>(∃s:SL,bs=cq 1 s.d∧aB s.d=true∧j0 s∧e=.returned (.tuple #[.agg #[.slice s.e.a s.e.es.length s.e.c,.slice s.p.va s.p.d.vec.length s.p.vc,.slice s.p.ca s.p.d.ab.length s.p.cc,.slice s.r.a s.r.rs.length s.r.c],.int .i64 0])∧Sat W w' [iX 216 s.e.a s.e.c s.e.es,cM 3 s.p.va s.p.vc s.p.d.vec,bH 219 s.p.ca s.p.cc s.p.d.ab,s.r.ch 206 3 219])∨(ry 1 aB bs∧e=.returned (.tuple #[.agg #[.slice none 0 0,.slice none 0 0,.slice none 0 0,.slice none 0 0],.int .i64 8])∧Sat W w' []):=by
 refine bP Tryz.func425 [0,1] ?_;have O:=Sat.start W;refine uC 2 ?_;refine uB rfl O ?_;clear O;intro b2 w O;refine uN vH O ?_;clear O;intro b4 w O;refine uO 6 ?_;refine uF rfl (vl _ A c bs hb (hR.sat O)) ?_;rintro e w (⟨s,hst,hfb,hsm,rfl,hT⟩ | ⟨hno,rfl,hT⟩)
 ·replace O:Sat _ _ (_::_::_::_::_):=O.ag hT;clear hT;refine u1 0 (an rfl rfl) ?_;refine u1 0 (an rfl rfl) ?_;refine uW (vs:=[_,_,_,_]) (cs':=[_,_,_,_]) rfl rfl ke (O.p 4) ?_;clear O;intro w O;refine uO 4 ?_;intro a I;refine eu I rfl (de (cs:=[_,_,_,_]) I rfl x5 ke (by exact O.aF (xs:=[_,_,_,_]) rfl)) (dm I rfl) ?_;exact .inl ⟨s,hst,hfb,hsm,rfl,B9 ((((O.p 4).p 4).p 4).p 4)⟩
 ·replace O:Sat _ _ _:=O.ag hT;clear hT;refine u1 0 (an rfl rfl) ?_;refine u1 0 (an rfl rfl) ?_;refine uW (vs:=[_,_,_,_]) (cs':=[_,_,_,_]) rfl rfl ke O ?_;clear O;intro w O;refine uO 4 ?_;intro a I;refine eu I rfl (de (cs:=[_,_,_,_]) I rfl x5 ke (by exact O.aF (xs:=[_,_,_,_]) rfl)) (dm I rfl) ?_;exact .inr ⟨hno,rfl,O.nil⟩
theorem lZ (W:World)(A:Option Addr)(c:Nat)(bs:List UInt8)(hb:bs.length≤16777216)(hR:Rd W 1 (.slice A bs.length c) bs.length (bs.map ai)):Calls Tryz.prog 333 #[.agg #[],.slice A (bs).length c] W fun e w'=>(∃s:SL,bs=cq 2 s.d∧bz s.d=true∧j0 s∧e=.returned (.tuple #[.agg #[.slice s.e.a s.e.es.length s.e.c,.slice s.p.va s.p.d.vec.length s.p.vc,.slice s.p.ca s.p.d.ab.length s.p.cc,.slice s.r.a s.r.rs.length s.r.c],.int .i64 0])∧Sat W w' [iX 216 s.e.a s.e.c s.e.es,cM 3 s.p.va s.p.vc s.p.d.vec,bH 219 s.p.ca s.p.cc s.p.d.ab,s.r.ch 206 3 219])∨(ry 2 bz bs∧e=.returned (.tuple #[.agg #[.slice none 0 0,.slice none 0 0,.slice none 0 0,.slice none 0 0],.int .i64 8])∧Sat W w' []):=by
 refine bP Tryz.func333 [0,1] ?_;have O:=Sat.start W;refine uC 2 ?_;refine uB rfl O ?_;clear O;intro b2 w O;refine uN yW O ?_;clear O;intro b4 w O;refine uO 6 ?_;refine uF rfl (vP _ A c bs hb (hR.sat O)) ?_;rintro e w (⟨s,hst,hfb,hsm,rfl,hT⟩ | ⟨hno,rfl,hT⟩)
 ·replace O:Sat _ _ (_::_::_::_::_):=O.ag hT;clear hT;refine u1 0 (an rfl rfl) ?_;refine u1 0 (an rfl rfl) ?_;refine uW (vs:=[_,_,_,_]) (cs':=[_,_,_,_]) rfl rfl lv (O.p 4) ?_;clear O;intro w O;refine uO 4 ?_;intro a I;refine eu I rfl (de (cs:=[_,_,_,_]) I rfl x4 lv (by exact O.aF (xs:=[_,_,_,_]) rfl)) (dm I rfl) ?_;exact .inl ⟨s,hst,hfb,hsm,rfl,B9 ((((O.p 4).p 4).p 4).p 4)⟩
 ·replace O:Sat _ _ _:=O.ag hT;clear hT;refine u1 0 (an rfl rfl) ?_;refine u1 0 (an rfl rfl) ?_;refine uW (vs:=[_,_,_,_]) (cs':=[_,_,_,_]) rfl rfl lv O ?_;clear O;intro w O;refine uO 4 ?_;intro a I;refine eu I rfl (de (cs:=[_,_,_,_]) I rfl x4 lv (by exact O.aF (xs:=[_,_,_,_]) rfl)) (dm I rfl) ?_;exact .inr ⟨hno,rfl,O.nil⟩
def aU (bs:List UInt8):Nat×Nat:=bs.foldl (fun s b=>((s.1+b.toNat) % 4294967296,(s.2+(s.1+b.toNat) % 4294967296) % 4294967296)) (0,0)
theorem rM {bs:List UInt8}{i:Nat}{b:UInt8}(h:bs[i]?=some b):aU (bs.take (i+1))=(((aU (bs.take i)).1+b.toNat) % 4294967296,((aU (bs.take i)).2+((aU (bs.take i)).1+b.toNat) % 4294967296) % 4294967296):=by
 unfold aU;rw[ay h,List.foldl_append];rfl
theorem kl (bs:List UInt8):(aU bs).1<4294967296∧(aU bs).2<4294967296:=by
 rcases List.eq_nil_or_concat bs with rfl | ⟨l,b,rfl⟩
 ·
  decide
 ·
  rw[List.concat_eq_append];unfold aU;rw[List.foldl_append];simp only[List.foldl_cons,List.foldl_nil];exact⟨Nat.mod_lt _ (by decide),Nat.mod_lt _ (by decide)⟩
def vO (bs:List UInt8)(i:Nat):Nat:=((aU (bs.take i)).2+(bs.length-i) * (aU (bs.take i)).1) % 4294967296
theorem Cz {bs:List UInt8}{i:Nat}{b:UInt8}(h:bs[i]?=some b):vO bs (i+1)=(vO bs i+(bs.length-i) % 4294967296 * b.toNat) % 4294967296:=by
 have hi:=(List.getElem?_eq_some_iff.1 h).1;unfold vO;rw[rM h];simp only
 generalize (aU (bs.take i)).1=x
 generalize (aU (bs.take i)).2=y
 obtain⟨k,hk⟩:∃k,bs.length-i=k+1:=⟨bs.length-i-1,by omega⟩;rw[hk,show bs.length-(i+1)=k from by omega]
 generalize b.toNat=c
 have e1:((y+(x+c) % 4294967296) % 4294967296+k * ((x+c) % 4294967296)) % 4294967296=(y+(x+c)+k * (x+c)) % 4294967296:=by
  rw[Nat.add_mod,Nat.mod_mod,Nat.mul_mod,Nat.mod_mod,←Nat.mul_mod,←Nat.add_mod,Nat.add_mod (y+_),Nat.add_mod y,Nat.mod_mod,←Nat.add_mod y,←Nat.add_mod]
 have e2:((y+(k+1) * x) % 4294967296+(k+1) % 4294967296 * c) % 4294967296=(y+(k+1) * x+(k+1) * c) % 4294967296:=by
  rw[Nat.add_mod,Nat.mod_mod,Nat.mul_mod ((k+1) % 4294967296),Nat.mod_mod,←Nat.mul_mod,←Nat.add_mod]
 rw[e1,e2]
 congr 1
 rw[Nat.add_mul,Nat.add_mul,Nat.mul_add];omega
theorem Fl (bs:List UInt8):vO bs bs.length=(aU bs).2:=by
 unfold vO;rw[List.take_length,Nat.sub_self,Nat.zero_mul,Nat.add_zero,Nat.mod_eq_of_lt (kl bs).2]
def cn (n:Nat):List UInt8:=[UInt8.ofNat (n / 16777216),UInt8.ofNat (n / 65536),UInt8.ofNat (n / 256),UInt8.ofNat n]
def dg (b:List UInt8):List UInt8:=b++(cn (aU b).1++cn (aU b).2)
theorem wrap32 (a b:Nat):IntKind.u32.wrap ((a:Int)+(b:Int))=(((a+b) % 4294967296:Nat):Int):=by
 simp[IntKind.wrap,IntKind.bits,IntKind.signed]
theorem tC (W:World)(A:Option Addr)(c:Nat)(bs:List UInt8)(hR:Rd W 1 (.slice A bs.length c) bs.length (bs.map ai))(hl:bs.length≤1000000000000):Calls Tryz.prog 55 #[.slice A (bs).length c] W fun e w'=>e=.returned (.tuple #[.int .i64 (((aU bs).1:Nat):Int),.int .i64 (((aU bs).2:Nat):Int)])∧Sat W w' []:=by
 refine bP Tryz.func55 [0] ?_;have O:=Sat.start W;refine uC 16 ?_;refine u1 4 (ak rfl aW) ?_;intro a I;refine wp_loop_ghost (fun (mm:Nat) a w=>∃(i:Nat),Ag a 26 [(4,.int .u32 (((aU (bs.take i)).1:Nat):Int)),(5,.int .u32 (((aU (bs.take i)).2:Nat):Int)),(8,.slice A (bs).length c),(9,.int .i64 ((bs.length:Nat):Int)),(10,.int .i64 ((i:Nat):Int))]∧Sat W w ([])∧(i≤bs.length)∧mm=bs.length-i) bs.length ?_ ?_
 ·replace I:=I.kp [4,5,8,9,10] rfl;exact⟨0,I,O,(by omega),by omega⟩
 intro m a w hI;clear O I;obtain⟨i,I,O,hi,rfl⟩:=hI;refine rC 2 I ?_;clear I a;refine aK 0 0 (aq rfl rfl) ?_ ?_
 ·intro h11;refine uO 10 ?_;obtain⟨A_p,rfl⟩:∃q,A=some q:=(hR.sat O).ao (by omega);obtain⟨b,hb⟩:∃zz_,bs[i]?=some zz_:=⟨_,List.getElem?_eq_getElem (by omega)⟩;have hb8:=b.toNat_lt;have hsm:=rM hb;have hx1:(aU (bs.take (i+1))).1=((aU (bs.take i)).1+b.toNat) % 4294967296:=by rw[hsm]
  have hy1:(aU (bs.take (i+1))).2=((aU (bs.take i)).2+((aU (bs.take i)).1+b.toNat) % 4294967296) % 4294967296:=by rw[hsm]
  refine u1 0 (ix rfl rfl aW mJ) ?_;refine u1 7 (aj rfl o0 (eO (hR.sat O) (aV hb))) ?_;refine u1 0 (p7 rfl oZ Fm (by simp only[IntKind.min,IntKind.signed,IntKind.bits];omega) (by simp only[IntKind.max,IntKind.signed,IntKind.bits];omega)) ?_;refine u1 6 (aH (zZ rfl rfl) (show _=Value.int .u32 ((((aU (bs.take i)).1+b.toNat) % 4294967296:Nat):Int) from congrArg (Value.int .u32) (wrap32 _ _))) ?_;refine u1 5 (aH (zZ rfl rfl) (show _=Value.int .u32 ((((aU (bs.take i)).2+((aU (bs.take i)).1+b.toNat) % 4294967296) % 4294967296:Nat):Int) from congrArg (Value.int .u32) (wrap32 _ _))) ?_;refine u1 2 (ad rfl rfl) ?_;intro a I;replace I:=I.kp [4,5,8,9,10] rfl;rw[←hy1,←hx1]at I;exact⟨bs.length-(i+1),by omega,i+1,I,O,by omega,rfl⟩
 ·intro h11;obtain rfl:i=bs.length:=by omega
  intro a I;rw[List.take_length]at I;have hlt:=kl bs;refine rO 12 I ?_;clear I a;refine u1 1 (p7 rfl Fm p3 (by simp only[IntKind.min,IntKind.signed,IntKind.bits];omega) (by simp only[IntKind.max,IntKind.signed,IntKind.bits];omega)) ?_;refine u1 4 (p7 rfl Fm p3 (by simp only[IntKind.min,IntKind.signed,IntKind.bits];omega) (by simp only[IntKind.max,IntKind.signed,IntKind.bits];omega)) ?_;intro a I;replace I:=I.kp [2,3] rfl;refine rC 1 I ?_;clear I a;refine ft ?_;exact⟨rfl,O⟩
theorem sE (W:World)(A:Option Addr)(c:Nat)(bs:List UInt8)(hR:Rd W 1 (.slice A bs.length c) bs.length (bs.map ai))(hl:bs.length≤1000000000000):Calls Tryz.prog 42 #[.slice A (bs).length c] W fun e w'=>e=.returned (.tuple #[.int .i64 (((aU bs).1:Nat):Int),.int .i64 (((aU bs).2:Nat):Int)])∧Sat W w' []:=by
 refine bP Tryz.func42 [0] ?_;have O:=Sat.start W;refine uC 23 ?_;intro a I;refine wp_loop_ghost (fun (mm:Nat) a w=>∃(i:Nat),Ag a 37 [(0,.slice A (bs).length c),(4,.int .i64 (((aU (bs.take i)).1:Nat):Int)),(5,.int .i64 (((vO bs i):Nat):Int)),(6,.int .i64 ((i:Nat):Int))]∧Sat W w ([])∧(i≤bs.length)∧(vO bs i<4294967296)∧mm=bs.length-i) bs.length ?_ ?_
 ·replace I:=I.kp [0,4,5,6] rfl;rw[show Value.int .i64 0=.int .i64 ((vO bs 0:Nat):Int) from by simp[vO,aU]]at I;exact⟨0,I,O,(by omega),(by exact Nat.mod_lt _ (by decide)),by omega⟩
 intro m a w hI;clear O I;obtain⟨i,I,O,hi,hr,rfl⟩:=hI;refine rC 5 I ?_;clear I a;refine u1 0 (ak rfl aW) ?_;refine aK 0 0 (aq rfl rfl) ?_ ?_
 ·intro h10;refine uO 12 ?_;obtain⟨A_p,rfl⟩:∃q,A=some q:=(hR.sat O).ao (by omega);obtain⟨b,hb⟩:∃zz_,bs[i]?=some zz_:=⟨_,List.getElem?_eq_getElem (by omega)⟩;have hb8:=b.toNat_lt;have hsm:=rM hb;have hxl:=(kl (bs.take i)).1;refine u1 0 (ix rfl rfl aW mJ) ?_;refine u1 0 (aj rfl o0 (eO (hR.sat O) (aV hb))) ?_;refine u1 0 (p7 rfl oZ p3 (by simp only[IntKind.min,IntKind.signed,IntKind.bits];omega) (by simp only[IntKind.max,IntKind.signed,IntKind.bits];omega)) ?_;refine u1 0 (ad rfl rfl) ?_;have hx1:(aU (bs.take (i+1))).1=((aU (bs.take i)).1+b.toNat) % 4294967296:=by rw[hsm]
  refine u1 6 (aH (gZ rfl rfl (by omega) (by omega)) (show _=Value.int .i64 (((aU (bs.take (i+1))).1:Nat):Int) from congrArg (Value.int .i64) (by omega))) ?_;refine u1 1 (ak rfl aW) ?_;refine u1 0 (aH (sb rfl rfl) (show _=Value.int .i64 ((bs.length-i:Nat):Int) from congrArg (Value.int .i64) (by omega))) ?_;refine u1 2 (aH (gZ rfl rfl (by omega) (by omega)) (show _=Value.int .i64 (((bs.length-i) % 4294967296:Nat):Int) from congrArg (Value.int .i64) (by omega))) ?_;refine u1 0 (ix rfl rfl aW mJ) ?_;refine u1 0 (aj rfl o0 (eO (hR.sat O) (aV hb))) ?_;refine u1 0 (p7 rfl oZ p3 (by simp only[IntKind.min,IntKind.signed,IntKind.bits];omega) (by simp only[IntKind.max,IntKind.signed,IntKind.bits];omega)) ?_;obtain⟨pm,hpm⟩:∃z:Nat,z=(bs.length-i) % 4294967296 * b.toNat:=⟨_,rfl⟩
  have hpi:(((bs.length-i) % 4294967296:Nat):Int) * (b.toNat:Int)=(pm:Int):=by rw[hpm,Int.natCast_mul]
  have hpb:pm≤4294967296 * 256:=by rw[hpm];exact Nat.mul_le_mul (by omega) (by omega)
  have hr1:=Cz hb;intro a I;rw[←hpm]at hr1;refine o1 0 I (BM (I.ev rfl) (I.ev rfl) (by omega) (by omega)) ?_;clear I a;refine u1 0 (ad rfl rfl) ?_;refine u1 6 (aH (gZ rfl rfl (by omega) (by omega)) (show _=Value.int .i64 ((vO bs (i+1):Nat):Int) from congrArg (Value.int .i64) (by omega))) ?_;refine u1 2 (ad rfl rfl) ?_;intro a I;replace I:=I.kp [0,4,5,6] rfl;exact⟨bs.length-(i+1),by omega,i+1,I,O,by omega,Nat.mod_lt _ (by decide),rfl⟩
 ·intro h10;refine uO 16 ?_;intro a I;replace I:=I.kp [2,3] rfl;refine rC 1 I ?_;clear I a;refine ft ?_;obtain rfl:i=bs.length:=by omega
  rw[List.take_length,Fl]at *;exact⟨rfl,O⟩
end Go.Proofs.YtkjabaihpkbfhaaGreat.Wk
namespace Go.Proofs.YtkjabaihpkbfhaaGreat.K
open Go Go.RowKit
variable {P:Program} {W w:World} {ty t tx e:TypeId} {sz n k c:Nat} {u:Value} {cs ns:List Value} {L:List As} {p:Addr}
theorem tU (i:TypeInfo)(z:Value)(ht:P.underlying t=some (.slice e))(hi:P.info? e=some i)(hz:i.zero=some z)(hzs:z.cells.size=sz)(hsz:i.size=sz)
 (s:Sat W w L) (hR:Rd w sz (.slice (some p) n c) n cs) (hs:Src P sz tx u k ns w) (hroom:c<n+k) (hn:(n+k) * i.bytes≤140737488355328) (hn2:n+k≤140737488355328) :
 ∃v' w',(Builtin.append_ #[t,tx] ty #[.slice (some p) n c,u]).run P w=.ok v' w'∧Sat W w' (row e sz v' (n+k) (cs++ns)::L):=by
 have hnl:=hs.newsLen;subst hsz;have hl:cs.length=n * i.size:=hR.len;have hcell:∀j u,cs[j]?=some u→w.cell? (p.add j)=some u:=fun j u e=>hR.cell e
 refine⟨_,_,run_append_grow_src w t tx ty e i z ht hi hz (some p) n c cs ?_ u k ns hs (by omega) (by omega) (growslice_fits (by omega) hn),?_⟩
 ·
  exact run_firstCells_some w.drew i.size n p n c cs hl fun j u e=>hcell j u e
 ·
  have hc:=grownCap_le w (n+k) c e (by omega);refine (s.drew.alloc _).imp fun h hh=>.inr ⟨w.heap.size,grownCap w (n+k) c e,(Builtin.zeroCells z.cells (grownCap w (n+k) c e-(n+k))).toList,(0,0),rfl,hc.1,hc.2,by simp[hl,hnl,Nat.add_mul],?_,lK.zero _,?_⟩
  ·
   simp only[List.length_append,Array.length_toList,kO,hzs,hnl,hl];rw[←Nat.add_mul,←Nat.add_mul];congr 1;omega
  ·
   rw[show h w.heap.size=_ from hh]
   congr 2
   apply Array.ext';simp
theorem xq {ρ:Operand→Value}{dd:Option Tmp}{g:Option (Nat×Bool)}{x y:Operand}{ps:String}{af:Array Edge}{z:Value}{by_:Nat}(hs:ρ x=.slice (some p) n c)(hu:ρ y=u)(ht:P.underlying t=some (.slice e))(hi:dN P e=some (some z,sz,by_))(hzs:z.cells.size=sz)
 (s:Sat W w L) (hR:Rd w sz (.slice (some p) n c) n cs) (src:Src P sz tx u k ns w) (hroom:c<n+k) (h1:(n+k) * by_≤140737488355328) (h2:n+k≤140737488355328) :
 ∃v' w',(execOp ρ ⟨dd,.call { callee:=.builtin .append,args:=[x,y].toArray,argTypes:=[t,tx].toArray },ty,ps,af,g⟩).run P w=.ok (.value v') w'∧Sat W w' (row e sz v' (n+k) (cs++ns)::L):=by
 obtain⟨i,hi',hq⟩:=Option.map_eq_some_iff.1 hi;simp only[Prod.mk.injEq]at hq;obtain⟨hz,hsz,hb⟩:=hq;subst hb;obtain⟨v',w',hr,S⟩:=tU (ty:=ty) i z ht hi' hz hzs hsz s hR src hroom h1 h2;refine⟨v',w',?_,S⟩;have hr':Sem.run P (Builtin.append_ #[t,tx] ty #[.slice (some p) n c,u]) w=.ok v' w':=hr
 have he:execOp ρ ⟨dd,.call { callee:=.builtin .append,args:=[x,y].toArray,argTypes:=[t,tx].toArray },ty,ps,af,g⟩=(Builtin.append_ #[t,tx] ty #[.slice (some p) n c,u]).bind fun r=>Sem.pure (Next.value r):=by
  have hm:(#[x,y]:Array Operand).map ρ=#[.slice (some p) n c,u]:=by simp[hs,hu]
  show (resolve ρ { callee:=.builtin .append,args:=#[x,y],argTypes:=#[t,tx] } ty).bind (fun d=>invoke d.target d.args)=_;unfold resolve;simp only[hm]
  rfl
 rw[he,Sem.run_bind',hr']
 rfl
theorem JH {ops:Array Oper}{a:Act}{N:Nat}{E:Env}{ds:List Deferred}{rest:List Oper}{d:Nat}{Q:Exit→Act→World→Prop}{x y:Operand}{ps:String}{af:Array Edge}{z:Value}{by_:Nat}(I:Ag a N E ds)(hn:Nat.blt d N=true)(hs:fC E x=some (.slice (some p) n c))(hu:fC E y=some u)(ht:P.underlying t=some (.slice e))(hi:dN P e=some (some z,sz,by_))(hzs:z.cells.size=sz)
 (s:Sat W w L) (hR:Rd w sz (.slice (some p) n c) n cs) (src:Src P sz tx u k ns w) (hroom:c<n+k) (h1:(n+k) * by_≤140737488355328) (h2:n+k≤140737488355328)
 (kk:∀A cc w',n+k≤cc→Sat W w' (row e sz (.slice A (n+k) cc) (n+k) (cs++ns)::L)→∀a',Ag a' N ((d,.slice A (n+k) cc)::E) ds→wpList P ops Q rest a' w') :
 wpList P ops Q (⟨some d,.call { callee:=.builtin .append,args:=[x,y].toArray,argTypes:=[t,tx].toArray },ty,ps,af,none⟩::rest) a w:=by
 obtain⟨v',w',hr,S⟩:=xq (dd:=some d) (ty:=ty) (ps:=ps) (af:=af) (g:=none) (I.ev hs) (I.ev hu) ht hi hzs s hR src hroom h1 h2;obtain⟨A,cc,rfl,hc⟩:=S.rd.form;exact yn I rfl rfl hn hr (kk A cc w' hc S)
end Go.Proofs.YtkjabaihpkbfhaaGreat.K
namespace Go.Proofs.YtkjabaihpkbfhaaGreat.K
open Go Go.RowKit
def rz (P:Program)(t:TypeId)(name:String):Option FuncId:=match P.info? t with
 | none=>none
 | some i => match i.methods.find? (·.name == name) with
   | none=>none
   | some m => match m.path.toList, m.func, P.underlying t with
     | [],some (f,false),some (.struct _)=>some f
     | _,_,_=>none
section
variable {P:Program} {ops:Array Oper} {a:Act} {n:Nat} {E:Env} {w w':World} {d:Nat} {ds:List Deferred} {x:Operand} {Q:Exit→Act→World→Prop} {rest:List Oper} {dd:Option Tmp} {ty:TypeId} {ps:String} {af:Array Edge} {g:Option (Nat×Bool)} {f:Nat} {t:TypeId} {name:String} {v:Value} {l:List Operand} {tys:Array TypeId} {vs:List Value} {R:Ending→World→Prop}
theorem AW (hm:rz P t name=some f)(k:Nat):(method (k+1) t v name).run P w=.ok (f,v) w:=by
 unfold rz at hm;cases hi:P.info? t with
 | none=>rw[hi]at hm;cases hm
 | some i =>
   rw[hi]at hm;dsimp only at hm;cases hf:i.methods.find? (·.name == name) with
   | none=>rw[hf]at hm;cases hm
   | some m =>
     rw[hf]at hm;dsimp only at hm
     split at hm
     ·
      rename_i fs h1 h2 h3;cases hm;have hu:=run_underlying h3;unfold method;simp[typeInfo,hi,hf,h1,h2,follow,receiverAt,hu,Place.get,go_sem]
     ·
      cases hm
theorem B5 (I:Ag a n E ds)(hm:rz P t name=some f)(hf:enters P f=true)(hx:fC E x=some (.iface t v))(hv:ml E l=some vs) :
 (execOp a.eval ⟨dd,.call { callee:=.invoke x name,args:=l.toArray,argTypes:=tys },ty,ps,af,g⟩).run P w=.ok (.enter f (v::vs).toArray) w:=by
 have h:=kv (w:=w) (args:=(v::vs).toArray) hf;have hq:=I.ev hx;have hv':l.map a.eval=vs:=I.ml hv;have he:execOp a.eval ⟨dd,.call { callee:=.invoke x name,args:=l.toArray,argTypes:=tys },ty,ps,af,g⟩=invoke (.fn (.method name) #[]) (#[a.eval x]++l.toArray.map a.eval):=rfl;have hmm:l.toArray.map a.eval=vs.toArray:=by simp[hv']
 have h2:Sem.run P (method (P.types.size+100) t v name) w=.ok (f,v) w:=AW (P:=P) (w:=w) (v:=v) hm (P.types.size+99);rw[he,hq,hmm]
 have h3:(#[(.iface t v:Value)]++vs.toArray).extract 1 (#[(.iface t v:Value)]++vs.toArray).size=vs.toArray:=by
  apply Array.ext';simp
 have h4:(#[v]:Array Value)++vs.toArray=(v::vs).toArray:=by simp
 have h5:(callMethod (.iface t v) name vs.toArray).run P w=.ok (.enter f (v::vs).toArray) w:=by
  simp[callMethod,Made.depth,go_sem,h2,h]
 have h0:(#[(.iface t v:Value)]++vs.toArray)[0]?=some (.iface t v):=by simp
 simp only[invoke,h0,h3];exact h5
theorem Jp (I:Ag a n E ds)(hn:Nat.blt d n=true)(hm:rz P t name=some f)(hf:enters P f=true)(hx:fC E x=some (.iface t v))(hv:ml E l=some vs)(hc:Calls P f (v::vs).toArray w R)
 (k:∀e w',R e w'→∃v,e=.returned v∧∀a',Ag a' n ((d,v)::E) ds→wpList P ops Q rest a' w') :
 wpList P ops Q (⟨some d,.call { callee:=.invoke x name,args:=l.toArray,argTypes:=tys },ty,ps,af,none⟩::rest) a w:=
 J9 I rfl rfl hn (B5 I hm hf hx hv) hc k
theorem HK {i:Nat}{K:Act→World→Prop}(I:Ag a n E ds)(hi:ops[i]?=some ⟨some d,.call { callee:=.invoke x name,args:=l.toArray,argTypes:=tys },ty,ps,af,none⟩)
 (hn:Nat.blt d n=true) (hm:rz P t name=some f) (hf:enters P f=true) (hx:fC E x=some (.iface t v)) (hv:ml E l=some vs) (hc:Calls P f (v::vs).toArray w R) (k:∀e w',R e w'→∃v,e=.returned v∧∀a',Ag a' n ((d,v)::E) ds→K a' w'):wpOp P ops Q i K a w:=by
 unfold wpOp;simp only[hi];rw[if_pos (by simp[Region.wanted])];refine .inl ?_;simp only[Oper.wp,B5 (dd:=some d) I hm hf hx hv,Oper.upon];refine hc.mono fun e w' h=>?_;obtain⟨v,rfl,hk⟩:=k e w' h;exact hk _ (I.put hn v)
end
end Go.Proofs.YtkjabaihpkbfhaaGreat.K
namespace Go.Proofs.YtkjabaihpkbfhaaGreat.Wk
open Go Go.RowKit Go.Proofs.YtkjabaihpkbfhaaGreat Go.Proofs.YtkjabaihpkbfhaaGreat.K Go.Proofs.YtkjabaihpkbfhaaGreat.T
def Fs (p:Option aN):Int:=match p with | some q=>q.hi | none=>0
theorem Bg {vec:List Int}{cl:List aN}{i:Nat}{r:Int}(h:i=0):bt vec (ahead none cl i) r=av vec r.toNat+2:=by subst h;rfl
theorem Ee {vec:List Int}{p:Option aN}{r:Int}(h:r≠cF p):bt vec p r=av vec r.toNat+2:=by
 cases p with
 | none=>rfl
 | some q=>unfold bt cF at *;simp only at *;rw[if_neg (Ne.symm h)]
theorem Ek {vec:List Int}{cl:List aN}{i:Nat}{r:Int}(h0:0<i)(h1:i≤cl.length)(h:r=cF (ahead none cl i)):bt vec (ahead none cl i) r=Fs (ahead none cl i)+2:=by
 have:∃q,ahead none cl i=some q:=by
  unfold ahead;rw[if_neg (by omega)];exact⟨_,List.getElem?_eq_getElem (by omega)⟩
 obtain⟨q,hq⟩:=this;rw[hq]at h ⊢;unfold bt cF Fs at *;simp only at *;rw[if_pos h.symm]
theorem Hk {p:aJ}(h:AD p)(i:Nat):0≤Fs (ahead none p.ab i)∧Fs (ahead none p.ab i)≤1000000000:=by
 unfold Fs;cases e:ahead none p.ab i with
 | none=>simp
 | some q =>
   have hi:¬i=0:=fun h=>by subst h;simp[ahead]at e
   unfold ahead at e;rw[if_neg hi]at e;have h1:=gA h e;have h2:=qZ h (i-1) q e;simp only;omega
theorem Ei {v:List Int}{r:Nat}{x:Int}(h:v[r]?=some x):av v r=x:=by unfold av;rw[h]
theorem Dk {v:List Int}{r:Nat}(h:v.length≤r):av v r=0:=by unfold av;rw[List.getElem?_eq_none h]
theorem drop_nil {bs:List UInt8}{n:Nat}(hn:n≤bs.length)(h:bs.drop n=[]):n=bs.length:=by
 have:=congrArg List.length h;rw[List.length_drop,List.length_nil]at this;omega
theorem iu (W w:World)(L:List As)(A:Option Addr)(c:Nat)(bs:List UInt8)(v:Nat)(O:Sat W w (row 5 1 (.slice A (bs).length c) (bs).length ((bs).map ai)::L))(hv:v≤9223372036854775807)(hb:bs.length≤140737488355000):Calls Tryz.prog 231 #[.slice A (bs).length c,.int .i64 ((v:Nat):Int)] w fun e w'=>∃A' c',e=.returned (.slice A' (bs++aE v).length c')∧Sat W w' (row 5 1 (.slice A' (bs++aE v).length c') (bs++aE v).length ((bs++aE v).map ai)::L):=by
 refine bP Tryz.func231 [0,1] ?_;refine uC 7 ?_;intro a I;refine wp_loop_ghost (fun (mm:Nat) a w=>∃(A':Option Addr) (c':Nat) (ds:List UInt8) (m:Nat),Ag a 21 [(0,.slice A' (bs++ds).length c'),(1,.int .i64 ((m:Nat):Int))]∧Sat W w (row 5 1 (.slice A' (bs++ds).length c') (bs++ds).length ((bs++ds).map ai)::L)∧(ds++aE m=aE v)∧(m≤v)∧mm=m) v ?_ ?_
 ·replace I:=I.kp [0,1] rfl;rw[←List.append_nil bs]at O I;exact⟨_,_,[],v,I,O,(by rfl),(by omega),by omega⟩
 intro m a w hI;clear O I;obtain⟨A',c',ds,m,I,O,hm,hmv,rfl⟩:=hI;have h9:=bd hv;have hdl:=congrArg List.length hm;rw[List.length_append]at hdl;have hnp:=cm m;refine rC 4 I ?_;clear I a;refine aK 0 0 (dx rfl rfl) ?_ ?_
 ·intro h6;refine uO 10 ?_;refine u1 0 (gZ rfl rfl (by omega) (by omega)) ?_;refine u1 0 (ad rfl rfl) ?_;refine u1 0 (jm rfl p3 oZ (by omega) (by omega)) ?_;intro a I;refine nF I rfl rfl aW j5 rfl rfl rfl (by simp[Value.oneCell']) O ?_;clear I a O;intro A12 w O;intro a I;refine dj I rfl rfl rfl aW j5 rfl (O.p 1) (O.rd.src aW (by simp[Value.oneCell'])) (by simp only[List.length_append];omega) (by simp only[List.length_append];omega) ?_;clear I a O;intro A13 c13 w hc13 O;refine uO 5 ?_;refine u1 3 (gw rfl rfl (by omega) (by omega) (by omega)) ?_;intro a I;replace I:=I.kp [0,1] rfl;have hge:=mX (n:=m) (by omega);have hnc:=ln (x:=m % 128+128) (by omega)
  have e1:(bs++ds).map ai++[Value.int .u8 ((m:Int) % 128+128)]=(bs++(ds++[UInt8.ofNat (m % 128+128)])).map ai:=by rw[show ((m:Int) % 128+128:Int)=((m % 128+128:Nat):Int) from by omega,hnc];simp
  have e2:(bs++ds).length+1=(bs++(ds++[UInt8.ofNat (m % 128+128)])).length:=by simp;try omega
  have e3:((m:Int) / 128)=((m / 128:Nat):Int):=by omega
  rw[e1,e2]at O;rw[e2,e3]at I;have e4:(ds++[UInt8.ofNat (m % 128+128)])++aE (m / 128)=aE v:=by rw[←hm,hge];simp
  have e5:=congrArg List.length e4;have e6:=cm (m / 128);simp only[List.length_append,List.length_cons,List.length_nil]at e5;exact⟨m / 128,by omega,_,_,ds++[UInt8.ofNat (m % 128+128)],m / 128,I,(O.p 1).drop,e4,by omega,rfl⟩
 ·intro h6;refine uO 12 ?_;refine u1 0 (jm rfl p3 oZ (by omega) (by omega)) ?_;intro a I;refine nF I rfl rfl aW j5 rfl rfl rfl (by simp[Value.oneCell']) O ?_;clear I a O;intro A19 w O;intro a I;refine dj I rfl rfl rfl aW j5 rfl (O.p 1) (O.rd.src aW (by simp[Value.oneCell'])) (by simp only[List.length_append];omega) (by simp only[List.length_append];omega) ?_;clear I a O;intro A20 c20 w hc20 O;refine uO 4 ?_;refine aS ?_;have hlt:=fx (n:=m) (by omega);have hnc:=ln (x:=m) (by omega);have e1:(bs++ds).map ai++[Value.int .u8 (m:Int)]=(bs++aE v).map ai:=by rw[hnc,←hm,hlt];simp
  have e2:(bs++ds).length+1=(bs++aE v).length:=by rw[←hm,hlt];simp;try omega
  rw[e1,e2]at O;rw[e2];exact⟨_,_,rfl,(O.p 1).drop⟩
theorem cw (W w:World)(L:List As)(A:Option Addr)(c:Nat)(bs:List UInt8)(v:Int)(O:Sat W w (row 5 1 (.slice A (bs).length c) (bs).length ((bs).map ai)::L))(h0:0≤v)(hv:v≤9223372036854775807)(hb:bs.length≤140737488355000):Calls Tryz.prog 231 #[.slice A (bs).length c,.int .i64 v] w fun e w'=>∃A' c',e=.returned (.slice A' (bs++aE v.toNat).length c')∧Sat W w' (row 5 1 (.slice A' (bs++aE v.toNat).length c') (bs++aE v.toNat).length ((bs++aE v.toNat).map ai)::L):=by
 obtain⟨n,rfl⟩:=Int.eq_ofNat_of_zero_le h0;exact iu W w L A c bs n O (by omega) hb
theorem nt (W w:World)(L:List As)(A:Option Addr)(c:Nat)(bs:List UInt8)(s:ByteArray)(O:Sat W w (row 5 1 (.slice A (bs).length c) (bs).length ((bs).map ai)::L))(hs:s.data.toList.length≤1000000000000)(hb:bs.length≤100000000000000):Calls Tryz.prog 232 #[.slice A (bs).length c,.string s] w fun e w'=>∃A' c',e=.returned (.slice A' (bs++(aE s.data.toList.length++s.data.toList)).length c')∧Sat W w' (row 5 1 (.slice A' (bs++(aE s.data.toList.length++s.data.toList)).length c') (bs++(aE s.data.toList.length++s.data.toList)).length ((bs++(aE s.data.toList.length++s.data.toList)).map ai)::L):=by
 refine bP Tryz.func232 [0,1] ?_;have hsz:=oa s;have hn9:=bd (n:=s.data.toList.length) (by omega);refine uC 9 ?_;refine u1 0 (gM rfl x7) ?_;refine uF rfl (iu _ _ _ _ _ _ s.size O (by omega) (by omega)) ?_;clear O;rintro e w ⟨A9,c9,rfl,O⟩;rw[hsz]at O ⊢;refine uO 10 ?_;intro a I;refine wp_loop_ghost (fun (mm:Nat) a w=>∃(i:Nat) (out:List UInt8) (Ao:Option Addr) (co:Nat),Ag a 23 [(0,.slice Ao (out).length co),(1,.string s),(5,.int .i64 ((i:Nat):Int))]∧Sat W w (row 5 1 (.slice Ao (out).length co) (out).length ((out).map ai)::L)∧(i≤s.data.toList.length)∧(out=bs++(aE s.data.toList.length++s.data.toList.take i))∧(out.length=bs.length+(aE s.data.toList.length).length+i)∧mm=s.data.toList.length-i) s.data.toList.length ?_ ?_
 ·replace I:=I.kp [0,1,5] rfl;exact⟨0,_,_,_,I,O,(by omega),(by simp),(by simp only[List.length_append];omega),by omega⟩
 intro m a w hI;clear O I;obtain⟨i,out,Ao,co,I,O,hi,ho,hol,rfl⟩:=hI;refine rC 5 I ?_;clear I a;refine u1 0 (gM rfl x7) ?_;refine aK 0 0 (aq rfl rfl) ?_ ?_
 ·intro h13;refine uO 11 ?_;obtain⟨x,hx⟩:∃zz_,s.data.toList[i]?=some zz_:=⟨_,List.getElem?_eq_getElem (by omega)⟩;refine u1 0 (tZ rfl rfl x7 (by omega) hx) ?_;intro a I;refine nF I rfl rfl aW j5 rfl rfl rfl (by simp[Value.oneCell']) O ?_;clear I a O;intro A20 w O;intro a I;refine dj I rfl rfl rfl aW j5 rfl (O.p 1) (O.rd.src aW (by simp[Value.oneCell'])) (by omega) (by omega) ?_;clear I a O;intro A21 c21 w hc21 O;refine uO 6 ?_;refine u1 2 (ad rfl rfl) ?_;intro a I;replace I:=I.kp [0,1,5] rfl;have e1:(out).map ai++[Value.int .u8 (x.toNat:Int)]=(out++[x]).map ai:=by simp[ai]
  have e2:(out).length+1=(out++[x]).length:=by simp
  rw[e1,e2]at O;rw[e2]at I;clear e1 e2;refine⟨s.data.toList.length-(i+1),by omega,i+1,out++[x],_,_,I,(O.p 1).drop,by omega,?_,by simp only[List.length_append,List.length_cons,List.length_nil];omega,rfl⟩;rw[ho,ay hx];simp only[List.append_assoc]
 ·intro h13;refine uO 14 ?_;intro a I;replace I:=I.kp [4] rfl;refine rC 1 I ?_;clear I a;refine aS ?_;obtain rfl:i=s.data.toList.length:=by omega
  rw[List.take_length]at ho;subst ho;exact⟨_,_,rfl,O⟩
theorem vY (W:World)(q:PL)(r:Int)(hp:q.ok W)(h0:0≤r)(hr:r≤1000)(hl:q.d.vec.length≤1000000000000):Calls Tryz.prog 265 #[.agg #[.slice q.va q.d.vec.length q.vc,.slice q.ca q.d.ab.length q.cc],.int .i64 r] W fun e w'=>e=.returned (.int .i64 (av q.d.vec r.toNat))∧Sat W w' []:=by
 refine bP Tryz.func265 [0,1] ?_;have O:=Sat.start W;obtain⟨va,vc,ca,cc,d⟩:=q;have hpv:j2 W va vc d.vec:=hp.vec;intro a I;dsimp only at I hl ⊢;refine rC 2 I ?_;clear I a;refine uB rfl O ?_;clear O;intro b2 w O;refine uO 7 ?_;refine u1 0 (aa rfl cz) ?_;refine u1 0 (ld rfl) ?_;refine u1 0 (ak rfl aA) ?_;refine aK 0 0 (aq rfl rfl) ?_ ?_
 ·intro h9;refine uO 5 ?_;refine u1 0 (aa rfl cz) ?_;refine u1 1 (ld rfl) ?_;obtain⟨va_p,rfl⟩:∃q,va=some q:=(hpv.sat O).ao (by omega);obtain⟨x,hx⟩:∃zz_,d.vec[r.toNat]?=some zz_:=⟨_,List.getElem?_eq_getElem (by omega)⟩;refine u1 0 (ix rfl rfl aA fO) ?_;refine u1 5 (aj rfl dE (eO (hpv.sat O) (aV hx))) ?_;refine aS ?_;rw[Ei hx];exact⟨rfl,O.drop⟩
 ·intro h9;refine uO 11 ?_;refine aS ?_;rw[Dk (by omega)];exact⟨rfl,O.drop⟩
theorem pB (W w:World)(L:List As)(A:Option Addr)(c:Nat)(bs:List UInt8)(q:PL)(O:Sat W w (row 5 1 (.slice A (bs).length c) (bs).length ((bs).map ai)::L))(hp:q.ok W)(hk:AD q.d)(hcl:q.d.ab.length≤1000000000)(hb:bs.length≤1000000000000):Calls Tryz.prog 233 #[.slice A (bs).length c,.agg #[.slice q.va q.d.vec.length q.vc,.slice q.ca q.d.ab.length q.cc]] w fun e w'=>∃A' c',e=.returned (.slice A' (bs++cB q.d).length c')∧Sat W w' (row 5 1 (.slice A' (bs++cB q.d).length c') (bs++cB q.d).length ((bs++cB q.d).map ai)::L):=by
 refine bP Tryz.func233 [0,1] ?_;obtain⟨va,vc,ca,cc,d⟩:=q;have hpv:j2 W va vc d.vec:=hp.vec;have hpc:gF W ca cc d.ab:=hp.ab;have hkl:=hk.len;intro a I;dsimp only at hk hcl hkl I ⊢;have hvl:d.vec.length≤16:=hkl;have hn0:=bd (n:=d.vec.length) (by omega);have hnc:=bd (n:=d.ab.length) (by omega);refine rC 2 I ?_;clear I a;refine uB rfl O ?_;clear O;intro b3 w O;refine uO 6 ?_;refine u1 0 (aa rfl cz) ?_;refine u1 0 (ld rfl) ?_;refine u1 0 (ak rfl aA) ?_;refine uF rfl (iu _ _ _ _ _ _ d.vec.length (O.p 1) (by omega) (by omega)) ?_;clear O;rintro e w ⟨A15,c15,rfl,O⟩;refine uO 10 ?_;intro a I
 refine wp_loop_ghost (fun (mm:Nat) a w=>∃(i:Nat) (out:List UInt8) (Ao:Option Addr) (co:Nat),Ag a 86 [(0,.slice Ao (out).length co),(3,.pointer (some ⟨b3,0,none⟩)),(5,.int .i64 ((i:Nat):Int))]∧Sat W w (row 5 1 (.slice Ao (out).length co) (out).length ((out).map ai)::a6 b3 (.cells #[.slice va d.vec.length vc,.slice ca d.ab.length cc] 63)::L)∧(i≤d.vec.length)∧(out=bs++(aE d.vec.length++seqB (ki 1000000000).g none (d.vec.take i)))∧(out.length≤bs.length+9 * (i+1))∧mm=d.vec.length-i) d.vec.length ?_ ?_
 ·replace I:=I.kp [0,3,5] rfl;exact⟨0,_,_,_,I,O,(by omega),(by simp[seqB]),(by simp only[List.length_append];omega),by omega⟩
 intro m a w hI;clear O I;obtain⟨i,out,Ao,co,I,O,hi,ho,hol,rfl⟩:=hI;refine rC 4 I ?_;clear I a;refine u1 0 (aa rfl cz) ?_;refine u1 0 (ld rfl) ?_;refine u1 0 (ak rfl aA) ?_;refine aK 0 0 (aq rfl rfl) ?_ ?_
 ·intro h20;refine uO 9 ?_;refine u1 0 (aa rfl cz) ?_;refine u1 1 (ld rfl) ?_;obtain⟨va_p,rfl⟩:∃q,va=some q:=(hpv.sat O).ao (by omega);obtain⟨x,hx⟩:∃zz_,d.vec[i]?=some zz_:=⟨_,List.getElem?_eq_getElem (by omega)⟩;obtain⟨hx0,hx1⟩:=hk.vec x (List.mem_of_getElem? hx);have hnx:=bd (n:=x.toNat) (by omega);refine u1 0 (ix rfl rfl aA fO) ?_;refine u1 0 (aj rfl dE (eO (hpv.sat O) (aV hx))) ?_;refine uF rfl (cw _ _ _ _ _ _ x O (by omega) (by omega) (by omega)) ?_;clear O;rintro e w ⟨A29,c29,rfl,O⟩;refine uO 6 ?_;refine u1 2 (ad rfl rfl) ?_;intro a I;replace I:=I.kp [0,3,5] rfl;refine⟨d.vec.length-(i+1),by omega,i+1,out++aE x.toNat,_,_,I,O,by omega,?_,by simp only[List.length_append];omega,rfl⟩;rw[dT hx,ho];simp only[List.append_assoc]
  rfl
 ·intro h20;refine uO 11 ?_;refine u1 0 (aa rfl bX) ?_;refine u1 0 (ld rfl) ?_;refine u1 0 (ak rfl dk) ?_;refine uF rfl (iu _ _ _ _ _ _ d.ab.length O (by omega) (by omega)) ?_;clear O;rintro e w ⟨A34,c34,rfl,O⟩;refine uO 3 ?_;intro a I;replace I:=I.kp [0,3] rfl;refine rC 13 I ?_;clear I a;intro a I
  refine wp_loop_ghost (fun (mm:Nat) a w=>∃(i:Nat) (out:List UInt8) (Ao:Option Addr) (co:Nat),Ag a 86 [(0,.slice Ao (out).length co),(3,.pointer (some ⟨b3,0,none⟩)),(6,.int .i64 ((cF (ahead none d.ab i)))),(7,.int .i64 ((Fs (ahead none d.ab i)))),(8,.int .i64 ((i:Nat):Int))]∧Sat W w (row 5 1 (.slice Ao (out).length co) (out).length ((out).map ai)::a6 b3 (.cells #[.slice va d.vec.length vc,.slice ca d.ab.length cc] 63)::L)∧(i≤d.ab.length)∧(out=bs++(aE d.vec.length++(seqB (ki 1000000000).g none d.vec++(aE d.ab.length++seqB (gX d.vec) none (d.ab.take i)))))∧(out.length≤bs.length+200+27 * i)∧mm=d.ab.length-i) d.ab.length ?_ ?_
  ·replace I:=I.kp [0,3,6,7,8] rfl;exact⟨0,_,_,_,I,O,(by omega),(by rw[ho,List.take_of_length_le (by omega)];simp[seqB]),(by simp only[List.length_append];omega),by omega⟩
  intro m a w hI;clear O I;obtain⟨i,out,Ao,co,I,O,hi,ho,hol,rfl⟩:=hI;refine rC 4 I ?_;clear I a;refine u1 0 (aa rfl bX) ?_;refine u1 0 (ld rfl) ?_;refine u1 0 (ak rfl dk) ?_;refine aK 0 0 (aq rfl rfl) ?_ ?_
  ·intro h39;refine uO 9 ?_;refine u1 0 (aa rfl bX) ?_;refine u1 1 (ld rfl) ?_;obtain⟨ca_p,rfl⟩:∃q,ca=some q:=(hpc.sat O).ao (by omega);obtain⟨s,hs⟩:∃zz_,d.ab[i]?=some zz_:=⟨_,List.getElem?_eq_getElem (by omega)⟩;obtain⟨hs0,hs1,hs2,hs3,hs4,hs5⟩:=gA hk hs;obtain⟨hl0,hl1⟩:=qs hk (i:=i) s.rep;have hp0:=sJ hk i;obtain⟨hh0,hh1⟩:=Hk hk i;have hn1:=bd (n:=(s.rep-cF (ahead none d.ab i)).toNat) (by omega);have hn3:=bd (n:=(s.hi-s.lo).toNat) (by omega);have hsl:=qZ hk i s hs;have hva:=dt hk.vec s.rep.toNat;refine u1 0 (ix rfl rfl dk cL) ?_;refine u1 0 (ax (cs:=gm s) rfl j6 cL (fun j u e=>bI (hpc.sat O) (dD hs j u e))) ?_;refine uN mn O ?_;clear O;intro b9 w O;refine uW (vs:=[_,_,_]) (cs':=[_,_,_]) rfl rfl cL O ?_;clear O;intro w O
   refine uO 4 ?_;refine u1 0 (lS (cs:=[_,_]) rfl) ?_;refine u1 0 (aa rfl bT) ?_;refine u1 0 (ld rfl) ?_;refine uF rfl (vY _ ⟨va,vc,some ca_p,cc,d⟩ s.rep (PL.ok.sat hp O) hs0 (by omega) (by show d.vec.length≤_;omega)) ?_;rintro e w ⟨rfl,hT⟩;dsimp only;replace O:Sat _ _ _:=O.ag hT;clear hT;refine u1 7 (ad rfl rfl) ?_;refine aK 0 0 (dx rfl rfl) ?_ ?_
   ·intro h53;refine uO 1 ?_;refine u1 0 (aa rfl bT) ?_;refine u1 1 (ld rfl) ?_;refine aK 0 0 (aY rfl rfl) ?_ ?_
    ·intro h58;have hle:=Ek (vec:=d.vec) (cl:=d.ab) (r:=s.rep) (show 0<i by omega) (by omega) h58;intro a I;rw[hle]at hl0 hl1 hs5;have hn2:=bd (n:=(s.lo-(Fs (ahead none d.ab i)+2)).toNat) (by omega);refine rO 6 I ?_;clear I a;refine u1 6 (ad rfl rfl) ?_;refine u1 0 (aa rfl bT) ?_;refine u1 1 (ld rfl) ?_;refine u1 0 (sb rfl rfl) ?_;refine uF rfl (cw _ _ _ _ _ _ (s.rep-cF (ahead none d.ab i)) (O.p 1) (by omega) (by omega) (by omega)) ?_;clear O;rintro e w ⟨A67,c67,rfl,O⟩;refine uO 6 ?_;refine u1 0 (aa rfl dS) ?_;refine u1 1 (ld rfl) ?_;refine u1 0 (sb rfl rfl) ?_;refine uF rfl (cw _ _ _ _ _ _ _ O (by omega) (by omega) (by (simp only[List.length_append,List.length_nil];omega))) ?_;clear O;rintro e w ⟨A73,c73,rfl,O⟩
     refine uO 6 ?_;refine u1 0 (aa rfl dW) ?_;refine u1 0 (ld rfl) ?_;refine u1 0 (aa rfl dS) ?_;refine u1 0 (ld rfl) ?_;refine u1 0 (sb rfl rfl) ?_;refine uF rfl (cw _ _ _ _ _ _ (s.hi-s.lo) O (by omega) (by omega) (by (simp only[List.length_append,List.length_nil];omega))) ?_;clear O;rintro e w ⟨A80,c80,rfl,O⟩;refine uO 3 ?_;intro a I;refine cD (fun w'=>Sat _ w' _) (by kernel_rfl) (by kernel_rfl) O.drew ?_;refine Q1 0 I (fun w O=>(aa (I.ev rfl) bT)) ?_;clear I a;refine bc 0 (fun w O=>(ld rfl)) ?_;refine bc 0 (fun w O=>(aa rfl dW)) ?_;refine bc 2 (fun w O=>(ld rfl)) ?_;intro a I;refine wpQuiet_nil ?_;clear O;intro w O;refine rE 4 I ?_;clear I a;refine u1 2 (ad rfl rfl) ?_;intro a I;replace I:=I.kp [0,3,6,7,8] rfl;have e6:s.rep=cF (ahead none d.ab (i+1)):=by rw[cG hs];rfl
     have e7:s.hi=Fs (ahead none d.ab (i+1)):=by rw[cG hs];rfl
     refine⟨d.ab.length-(i+1),by omega,i+1,_,_,_,?_,(O.p 1).drop,by omega,?_,by simp only[List.length_append];omega,rfl⟩
     ·rw[←e6,←e7];exact I
     rw[dT hs,ho];unfold gX;rw[hle];simp only[List.append_assoc]
    ·intro h58;have hle:=Ee (vec:=d.vec) h58;intro a I;rw[hle]at hl0 hl1 hs5;have hn2:=bd (n:=(s.lo-(av d.vec s.rep.toNat+2)).toNat) (by omega);refine rO 9 I ?_;clear I a;refine u1 0 (aa rfl bT) ?_;refine u1 1 (ld rfl) ?_;refine u1 0 (sb rfl rfl) ?_;refine uF rfl (cw _ _ _ _ _ _ (s.rep-cF (ahead none d.ab i)) (O.p 1) (by omega) (by omega) (by omega)) ?_;clear O;rintro e w ⟨A67,c67,rfl,O⟩;refine uO 6 ?_;refine u1 0 (aa rfl dS) ?_;refine u1 1 (ld rfl) ?_;refine u1 0 (sb rfl rfl) ?_;refine uF rfl (cw _ _ _ _ _ _ _ O (by omega) (by omega) (by (simp only[List.length_append,List.length_nil];omega))) ?_;clear O;rintro e w ⟨A73,c73,rfl,O⟩;refine uO 6 ?_;refine u1 0 (aa rfl dW) ?_;refine u1 0 (ld rfl) ?_;refine u1 0 (aa rfl dS) ?_;refine u1 0 (ld rfl) ?_;refine u1 0 (sb rfl rfl) ?_
     refine uF rfl (cw _ _ _ _ _ _ (s.hi-s.lo) O (by omega) (by omega) (by (simp only[List.length_append,List.length_nil];omega))) ?_;clear O;rintro e w ⟨A80,c80,rfl,O⟩;refine uO 3 ?_;intro a I;refine cD (fun w'=>Sat _ w' _) (by kernel_rfl) (by kernel_rfl) O.drew ?_;refine Q1 0 I (fun w O=>(aa (I.ev rfl) bT)) ?_;clear I a;refine bc 0 (fun w O=>(ld rfl)) ?_;refine bc 0 (fun w O=>(aa rfl dW)) ?_;refine bc 2 (fun w O=>(ld rfl)) ?_;intro a I;refine wpQuiet_nil ?_;clear O;intro w O;refine rE 4 I ?_;clear I a;refine u1 2 (ad rfl rfl) ?_;intro a I;replace I:=I.kp [0,3,6,7,8] rfl;have e6:s.rep=cF (ahead none d.ab (i+1)):=by rw[cG hs];rfl
     have e7:s.hi=Fs (ahead none d.ab (i+1)):=by rw[cG hs];rfl
     refine⟨d.ab.length-(i+1),by omega,i+1,_,_,_,?_,(O.p 1).drop,by omega,?_,by simp only[List.length_append];omega,rfl⟩
     ·rw[←e6,←e7];exact I
     rw[dT hs,ho];unfold gX;rw[hle];simp only[List.append_assoc]
   ·intro h53;obtain hle:=Bg (vec:=d.vec) (cl:=d.ab) (r:=s.rep) (show i=0 by omega);intro a I;rw[hle]at hl0 hl1 hs5;have hn2:=bd (n:=(s.lo-(av d.vec s.rep.toNat+2)).toNat) (by omega);refine rO 14 I ?_;clear I a;refine u1 0 (aa rfl bT) ?_;refine u1 1 (ld rfl) ?_;refine u1 0 (sb rfl rfl) ?_;refine uF rfl (cw _ _ _ _ _ _ (s.rep-cF (ahead none d.ab i)) (O.p 1) (by omega) (by omega) (by omega)) ?_;clear O;rintro e w ⟨A67,c67,rfl,O⟩;refine uO 6 ?_;refine u1 0 (aa rfl dS) ?_;refine u1 1 (ld rfl) ?_;refine u1 0 (sb rfl rfl) ?_;refine uF rfl (cw _ _ _ _ _ _ _ O (by omega) (by omega) (by (simp only[List.length_append,List.length_nil];omega))) ?_;clear O;rintro e w ⟨A73,c73,rfl,O⟩
    refine uO 6 ?_;refine u1 0 (aa rfl dW) ?_;refine u1 0 (ld rfl) ?_;refine u1 0 (aa rfl dS) ?_;refine u1 0 (ld rfl) ?_;refine u1 0 (sb rfl rfl) ?_;refine uF rfl (cw _ _ _ _ _ _ (s.hi-s.lo) O (by omega) (by omega) (by (simp only[List.length_append,List.length_nil];omega))) ?_;clear O;rintro e w ⟨A80,c80,rfl,O⟩;refine uO 3 ?_;intro a I;refine cD (fun w'=>Sat _ w' _) (by kernel_rfl) (by kernel_rfl) O.drew ?_;refine Q1 0 I (fun w O=>(aa (I.ev rfl) bT)) ?_;clear I a;refine bc 0 (fun w O=>(ld rfl)) ?_;refine bc 0 (fun w O=>(aa rfl dW)) ?_;refine bc 2 (fun w O=>(ld rfl)) ?_;intro a I;refine wpQuiet_nil ?_;clear O;intro w O;refine rE 4 I ?_;clear I a;refine u1 2 (ad rfl rfl) ?_;intro a I;replace I:=I.kp [0,3,6,7,8] rfl;have e6:s.rep=cF (ahead none d.ab (i+1)):=by rw[cG hs];rfl
    have e7:s.hi=Fs (ahead none d.ab (i+1)):=by rw[cG hs];rfl
    refine⟨d.ab.length-(i+1),by omega,i+1,_,_,_,?_,(O.p 1).drop,by omega,?_,by simp only[List.length_append];omega,rfl⟩
    ·rw[←e6,←e7];exact I
    rw[dT hs,ho];unfold gX;rw[hle];simp only[List.append_assoc]
  ·intro h39;refine uO 15 ?_;refine aS ?_;have hie:i=d.ab.length:=by omega
   rw[hie,List.take_length]at ho;rw[show bs++cB d=out from by rw[ho];rfl];exact⟨Ao,co,rfl,(O.p 1).drop⟩
theorem sV (W:World)(q:PL)(hp:q.ok W)(hv:q.d.vec.length≤1000000000000)(hcl:q.d.ab.length≤1000000000):Calls Tryz.prog 183 #[.agg #[.slice q.va q.d.vec.length q.vc,.slice q.ca q.d.ab.length q.cc]] W fun e w'=>∃A' c',e=.returned (.tuple #[.slice A' (if bJ q.d=true then cB q.d else []).length c',.int .i64 (if bJ q.d=true then 0 else 1)])∧Sat W w' [row 5 1 (.slice A' (if bJ q.d=true then cB q.d else []).length c') (if bJ q.d=true then cB q.d else []).length ((if bJ q.d=true then cB q.d else []).map ai)]:=by
 refine bP Tryz.func183 [0] ?_;have O:=Sat.start W;refine uC 2 ?_;refine uB rfl O ?_;clear O;intro b1 w O;refine uO 7 ?_;refine u1 0 (lS (cs:=[_,_]) rfl) ?_;refine uF rfl (eY _ q (hp.sat O) (by omega) hv) ?_;rintro e w ⟨rfl,hT⟩;replace O:Sat _ _ _:=O.ag hT;clear hT;generalize h5:bJ q.d=bb;cases bb
 ·refine u1 11 (aI rfl) ?_;refine ft ?_;simp only[h5,Bool.false_eq_true,if_false];exact⟨none,0,rfl,bY (O.aX 5 1)⟩
 ·refine u1 7 (aI rfl) ?_;refine u1 0 (lS (cs:=[_,_]) rfl) ?_;refine uF rfl (pB _ _ _ none 0 [] q ((O.aX 5 1)) (hp) (fw.1 h5).toAD hcl (by simp)) ?_;clear O;rintro e w ⟨A8,c8,rfl,O⟩;refine uO 5 ?_;refine ft ?_;rw[List.nil_append]at O ⊢;simp only[h5,if_true];exact⟨A8,c8,rfl,bY O⟩
end Go.Proofs.YtkjabaihpkbfhaaGreat.Wk
