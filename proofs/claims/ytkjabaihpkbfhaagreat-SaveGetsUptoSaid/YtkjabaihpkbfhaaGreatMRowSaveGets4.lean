/- Texts of our own that a row leans on, put together. No condition of their own. -/
import Derived.Test.YtkjabaihpkbfhaaGreatMRowSaveGets3
set_option linter.unusedVariables false
set_option linter.unusedSimpArgs false
set_option maxRecDepth 100000
set_option maxHeartbeats 2000000
namespace Go.Proofs.YtkjabaihpkbfhaaGreat.Wk
open Go Go.RowKit Go.Proofs.YtkjabaihpkbfhaaGreat Go.Proofs.YtkjabaihpkbfhaaGreat.K Go.Proofs.YtkjabaihpkbfhaaGreat.T
theorem vk (W w:World)(L:List As)(r:Nat)(A:Option Addr)(c:Nat)(bs:List UInt8)(at_:Nat)(mo:Int)(O:Sat W w (hZ r A c bs at_ true 0::L))(hat:at_≤bs.length)(hb:bs.length≤140737488355328)(hR:∀w,Sat W w L→Rd w 1 (.slice A bs.length c) bs.length (bs.map aj)):Calls Tryz.prog 152 #[.pointer (some ⟨r,0,none⟩),.int .i64 mo] w fun e w'=>(((nM bs at_ mo).2.2=0)∧e=.returned (.slice (jW A c 1 (gN bs at_ mo).2.1) (nM bs at_ mo).1.length (c-(gN bs at_ mo).2.1))∧Sat W w' (hZ r A c bs ((nM bs at_ mo).2.1:Nat) true 0::L))∨(((nM bs at_ mo).2.2≠0)∧xK (.iface 271 (.agg #[.pointer (some ⟨r,0,none⟩)])) e∧∃at',Sat W w' (hZ r A c bs at' true ((nM bs at_ mo).2.2:Nat)::L)):=by
 refine bS Tryz.func152 [0,1] ?_;intro a I;change Sat W w (a6 r (.cells #[.slice A bs.length c,.int .i64 (at_:Int),.bool true,.int .i64 0] 269)::L) at O;refine rC 9 I ?_;clear I a;intro a I;refine eu I rfl gY rfl (pZ _ _ _ r A c bs at_ mo O hat hb hR) ?_;rintro e w (⟨hu0,rfl,O⟩ | ⟨hu0,⟨older,rfl,ho⟩,at',O⟩)
 ·change Sat W w (a6 r (.cells #[.slice A bs.length c,.int .i64 ((gN bs at_ mo).2.1:Nat),.bool true,.int .i64 0] 269)::L) at O;obtain⟨hu1,hu2,hu3⟩:at_<(gN bs at_ mo).2.1∧(gN bs at_ mo).2.1≤bs.length∧(gN bs at_ mo).1≤9223372036854775807:=by rcases CB (mo:=mo) hat with h | ⟨_,h⟩;exact absurd hu0 h;exact h
  obtain⟨_,c_,hc0,hcc⟩:=(hR _ O.drop).form;have hcc:bs.length≤c:=by injection hc0;omega
  refine .inl ⟨_,rfl,?_⟩;clear I a;refine uO 5 ?_;intro a I;refine cF (fun w'=>Sat _ w' _) (by kernel_rfl) (by kernel_rfl) O.drew ?_;refine rQ 2 I ?_;clear I a;refine bj 0 (fun w O=>(bc rfl)) ?_;refine bj 0 (fun w O=>(aa rfl gr)) ?_;refine bj 0 (fun w O=>(ld rfl)) ?_;refine bj 1 (fun w O=>(ak rfl bd)) ?_;refine bj 0 (fun w O=>(bc rfl)) ?_;refine bj 0 (fun w O=>(aa rfl ja)) ?_;refine bj 0 (fun w O=>(ld rfl)) ?_;refine bj 0 (fun w O=>(sb rfl rfl)) ?_;intro a I;refine K.sE I rfl rfl rfl (fun w O=>(cG (I.ev rfl) (I.ev rfl))) ?_ ?_
  ·clear I a;intro h20;intro a I;refine wpQuiet_nil ?_;clear O;intro w O;refine rE 4 I ?_;clear I a;intro a I;refine eu I rfl wX rfl (jy _ _ _ r _ c bs _ 50 O) ?_;rintro e w ⟨⟨older,rfl,ho⟩,O⟩
   ·refine .inr ⟨_,rfl,?_⟩;refine rE 1 I ?_;clear I a;intro a I;refine dj I ?_;rw[pa hu0 (by omega)];exact .inr ⟨(by decide:(50:Nat)≠0),⟨older,rfl,ho⟩,_,O⟩
  ·clear I a;intro h20;intro a I;refine wpQuiet_nil ?_;clear O;intro w O;refine rE 7 I ?_;clear I a;refine u1 0 (bc rfl) ?_;refine u1 0 (aa rfl ja) ?_;refine u1 1 (ld rfl) ?_;refine u1 0 (aw (ad rfl rfl) (show _=Value.int .i64 (((gN bs at_ mo).2.1+(gN bs at_ mo).1:Nat):Int) from by rw[Int.natCast_add])) ?_;refine u1 0 (bc rfl) ?_;refine u1 0 (aa rfl ja) ?_;intro a I;refine kK I rfl rfl dA eP rfl O rfl ?_;clear O;intro w O;refine rO 2 I ?_;clear I a;intro a I;replace I:=I.kp [0,4,5] rfl;refine rC 1 I ?_;clear I a;intro a I;refine cF (fun w'=>Sat _ w' _) (by kernel_rfl) (by kernel_rfl) O.drew ?_;refine rQ 1 I ?_;clear I a
   refine bj 0 (fun w O=>(bc rfl)) ?_;refine bj 0 (fun w O=>(aa rfl gr)) ?_;refine bj 1 (fun w O=>(ld rfl)) ?_;refine bj 0 (fun w O=>(bc rfl)) ?_;refine bj 0 (fun w O=>(aa rfl ja)) ?_;refine bj 1 (fun w O=>(ld rfl)) ?_;refine bj 1 (fun w O=>(aw (sb rfl rfl) (show _=Value.int .i64 ((gN bs at_ mo).2.1:Int) from by congr 1;omega))) ?_;refine bj 0 (fun w O=>(bc rfl)) ?_;refine bj 0 (fun w O=>(aa rfl ja)) ?_;refine bj 0 (fun w O=>(ld rfl)) ?_;refine bj 1 (fun w O=>(aw (iq rfl rfl rfl bd sL (by omega) (by omega) (by omega)) (jC (bs:=bs) (n:=(gN bs at_ mo).1) rfl (by omega)))) ?_;intro a I;refine wpQuiet_nil ?_;clear O;intro w O;refine rE 2 I ?_;clear I a;refine aY ?_;rw[uJ hu0 (by omega)];exact .inl ⟨rfl,rfl,O⟩
 ·refine .inr ⟨_,rfl,?_⟩;refine rE 1 I ?_;clear I a;intro a I;refine dj I ?_;rw[tB hu0];exact .inr ⟨hu0,⟨older,rfl,ho⟩,_,O⟩
theorem xH (W w:World)(L:List As)(r:Nat)(A:Option Addr)(c:Nat)(bs:List UInt8)(at_:Nat)(ea:Int)(O:Sat W w (hZ r A c bs at_ true 0::L))(hat:at_≤bs.length)(hb:bs.length≤140737488355328)(hR:∀w,Sat W w L→Rd w 1 (.slice A bs.length c) bs.length (bs.map aj))(hea:ea≤9223372036854775807):Calls Tryz.prog 102 #[.pointer (some ⟨r,0,none⟩),.int .i64 ea] w fun e w'=>(((D3 bs at_ ea).2.2=0)∧e=.returned (.int .i64 (((D3 bs at_ ea).1:Nat):Int))∧Sat W w' (hZ r A c bs ((D3 bs at_ ea).2.1:Nat) true 0::L))∨(((D3 bs at_ ea).2.2≠0)∧xK (.iface 271 (.agg #[.pointer (some ⟨r,0,none⟩)])) e∧∃at',Sat W w' (hZ r A c bs at' true ((D3 bs at_ ea).2.2:Nat)::L)):=by
 refine bS Tryz.func102 [0,1] ?_;intro a I;change Sat W w (a6 r (.cells #[.slice A bs.length c,.int .i64 (at_:Int),.bool true,.int .i64 0] 269)::L) at O;refine rC 9 I ?_;clear I a;refine uF rfl (j1 _ _ _ r A c bs at_ true 0 O rfl) ?_;rintro e w ⟨rfl,hT⟩;replace O:Sat _ _ (_::_):=O.ag hT;clear hT;refine j4 0 0 (aB rfl) ?_ ?_
 ·intro h8;intro a I;simp only[Bool.not_eq_true']at h8;contradiction
 ·intro h8;intro a I;simp only[Bool.not_eq_false']at h8;refine rO 8 I ?_;clear I a;intro a I;refine eu I rfl gY rfl (pZ _ _ _ r A c bs at_ 9223372036854775807 O hat hb hR) ?_;obtain⟨hm1,hm2⟩:=xZ (bs:=bs) (i:=at_);rintro e w (⟨hu0,rfl,O⟩ | ⟨hu0,⟨older,rfl,ho⟩,at',O⟩)
  ·rw[hm1]at hu0;rw[(hm2 hu0).2]at O;have hok:=qx hu0;change Sat W w (a6 r (.cells #[.slice A bs.length c,.int .i64 ((dr bs at_).2.1:Nat),.bool true,.int .i64 0] 269)::L) at O;rw[(hm2 hu0).1];refine .inl ⟨_,rfl,?_⟩;clear I a;refine uO 5 ?_;intro a I;refine cF (fun w'=>Sat _ w' _) (by kernel_rfl) (by kernel_rfl) O.drew ?_;refine rQ 2 I ?_;clear I a;refine bj 0 (fun w O=>(bc rfl)) ?_;refine bj 0 (fun w O=>(aa rfl gr)) ?_;refine bj 0 (fun w O=>(ld rfl)) ?_;refine bj 1 (fun w O=>(ak rfl bd)) ?_;refine bj 0 (fun w O=>(bc rfl)) ?_;refine bj 0 (fun w O=>(aa rfl ja)) ?_;refine bj 0 (fun w O=>(ld rfl)) ?_;refine bj 1 (fun w O=>(sb rfl rfl)) ?_;refine bj 0 (fun w O=>(uL rfl rfl)) ?_;refine bj 0 (fun w O=>(kH rfl rfl (by omega) (by omega) (by omega))) ?_;intro a I
   refine K.sE I rfl rfl rfl (fun w O=>(cG (I.ev rfl) (I.ev rfl))) ?_ ?_
   ·clear I a;intro h25;intro a I;refine wpQuiet_nil ?_;clear O;intro w O;refine rE 4 I ?_;clear I a;intro a I;refine eu I rfl wX rfl (jy _ _ _ r _ c bs _ 50 O) ?_;rintro e w ⟨⟨older,rfl,ho⟩,O⟩
    ·refine .inr ⟨_,rfl,?_⟩;refine rE 1 I ?_;clear I a;intro a I;refine dj I ?_;rw[xh hu0 (by omega)];exact .inr ⟨(by decide:(50:Nat)≠0),⟨older,rfl,ho⟩,_,O⟩
   ·clear I a;intro h25;intro a I;refine wpQuiet_nil ?_;clear O;intro w O;refine rE 4 I ?_;clear I a;intro a I;replace I:=I.kp [4,5] rfl;refine rC 7 I ?_;clear I a;refine aY ?_;rw[BC hu0 (by omega)];exact .inl ⟨rfl,rfl,O⟩
  ·refine .inr ⟨_,rfl,?_⟩;refine rE 1 I ?_;clear I a;intro a I;refine dj I ?_;rw[hm1]at hu0 O;rw[Cv hu0];exact .inr ⟨hu0,⟨older,rfl,ho⟩,_,O⟩
theorem zU (W w:World)(L:List As)(r:Nat)(A:Option Addr)(c:Nat)(bs:List UInt8)(at_:Nat)(mo:Int)(O:Sat W w (hZ r A c bs at_ true 0::L))(hat:at_≤bs.length)(hb:bs.length≤140737488355328)(hR:∀w,Sat W w L→Rd w 1 (.slice A bs.length c) bs.length (bs.map aj)):Calls Tryz.prog 394 #[.pointer (some ⟨r,0,none⟩),.int .i64 mo] w fun e w'=>(((nM bs at_ mo).2.2=0)∧e=.returned (.string (str (nM bs at_ mo).1))∧Sat W w' (hZ r A c bs ((nM bs at_ mo).2.1:Nat) true 0::L))∨(((nM bs at_ mo).2.2≠0)∧xK (.iface 271 (.agg #[.pointer (some ⟨r,0,none⟩)])) e∧∃at',Sat W w' (hZ r A c bs at' true ((nM bs at_ mo).2.2:Nat)::L)):=by
 refine bS Tryz.func394 [0,1] ?_;intro a I;change Sat W w (a6 r (.cells #[.slice A bs.length c,.int .i64 (at_:Int),.bool true,.int .i64 0] 269)::L) at O;refine rC 9 I ?_;clear I a;refine uF rfl (j1 _ _ _ r A c bs at_ true 0 O rfl) ?_;rintro e w ⟨rfl,hT⟩;replace O:Sat _ _ (_::_):=O.ag hT;clear hT;refine j4 0 0 (aB rfl) ?_ ?_
 ·intro h7;intro a I;simp only[Bool.not_eq_true']at h7;contradiction
 ·intro h7;intro a I;simp only[Bool.not_eq_false']at h7;refine rO 9 I ?_;clear I a;intro a I;refine eu I rfl GG rfl (vk _ _ _ r A c bs at_ mo O hat hb hR) ?_;rintro e w (⟨hu0,rfl,O⟩ | ⟨hu0,⟨older,rfl,ho⟩,at',O⟩)
  ·have hpr:=B5 (mo:=mo) (hR _ O.drop) hat hu0;refine .inl ⟨_,rfl,?_⟩;clear I a;refine u1 4 (Cj rfl bd oa yH hpr) ?_;refine aY ?_;exact .inl ⟨hu0,rfl,O⟩
  ·refine .inr ⟨_,rfl,?_⟩;refine rE 1 I ?_;clear I a;intro a I;refine dj I ?_;exact .inr ⟨hu0,⟨older,rfl,ho⟩,_,O⟩
theorem yz (W w:World)(L:List As)(r:Nat)(A:Option Addr)(c:Nat)(bs:List UInt8)(at_:Nat)(mo:Int)(O:Sat W w (hZ r A c bs at_ true 0::L))(hat:at_≤bs.length)(hb:bs.length≤140737488355328)(hR:∀w,Sat W w L→Rd w 1 (.slice A bs.length c) bs.length (bs.map aj)):Calls Tryz.prog 103 #[.pointer (some ⟨r,0,none⟩),.int .i64 mo] w fun e w'=>((nM bs at_ mo).2.2=0∧(∃A' c',e=.returned (.slice A' (nM bs at_ mo).1.length c')∧Sat W w' (hZ r A c bs ((nM bs at_ mo).2.1:Nat) true 0::row 5 1 (.slice A' ((nM bs at_ mo).1).length c') ((nM bs at_ mo).1).length (((nM bs at_ mo).1).map aj)::L)))∨(((nM bs at_ mo).2.2≠0)∧xK (.iface 271 (.agg #[.pointer (some ⟨r,0,none⟩)])) e∧∃at',Sat W w' (hZ r A c bs at' true ((nM bs at_ mo).2.2:Nat)::L)):=by
 refine bS Tryz.func103 [0,1] ?_;intro a I;change Sat W w (a6 r (.cells #[.slice A bs.length c,.int .i64 (at_:Int),.bool true,.int .i64 0] 269)::L) at O;refine rC 9 I ?_;clear I a;refine uF rfl (j1 _ _ _ r A c bs at_ true 0 O rfl) ?_;rintro e w ⟨rfl,hT⟩;replace O:Sat _ _ (_::_):=O.ag hT;clear hT;refine j4 0 0 (aB rfl) ?_ ?_
 ·intro h7;intro a I;simp only[Bool.not_eq_true']at h7;contradiction
 ·intro h7;intro a I;simp only[Bool.not_eq_false']at h7;refine rO 9 I ?_;clear I a;intro a I;refine eu I rfl GG rfl (vk _ _ _ r A c bs at_ mo O hat hb hR) ?_;rintro e w (⟨hu0,rfl,O⟩ | ⟨hu0,⟨older,rfl,ho⟩,at',O⟩)
  ·have hpr:=B5 (mo:=mo) (hR _ O.drop) hat hu0;refine .inl ⟨_,rfl,?_⟩;clear I a;refine uF rfl (sW _ _ _ (nM bs at_ mo).1 hpr (by have:=CS (bs:=bs) (i:=at_) (mo:=mo);omega)) ?_;rintro e w ⟨A1,c1,rfl,hT⟩;replace O:=O.aM hT;clear hT;refine uO 4 ?_;refine aY ?_;exact .inl ⟨hu0,_,_,rfl,O.p 1⟩
  ·refine .inr ⟨_,rfl,?_⟩;refine rE 1 I ?_;clear I a;intro a I;refine dj I ?_;exact .inr ⟨hu0,⟨older,rfl,ho⟩,_,O⟩
theorem cW (W w:World)(L:List As)(r:Nat)(A:Option Addr)(c:Nat)(bs:List UInt8)(at_:Nat)(er:Int)(O:Sat W w (hZ r A c bs at_ true 0::L))(hat:at_≤bs.length)(hb:bs.length≤140737488355328)(hR:∀w,Sat W w L→Rd w 1 (.slice A bs.length c) bs.length (bs.map aj)):Calls Tryz.prog 101 #[.pointer (some ⟨r,0,none⟩),.int .i64 er] w fun e w'=>xK (.iface 271 (.agg #[.pointer (some ⟨r,0,none⟩)])) e∧∃at',Sat W w' (hZ r A c bs at' true (if er=0 then 8 else er)::L):=by
 refine bS Tryz.func101 [0,1] ?_;intro a I;change Sat W w (a6 r (.cells #[.slice A bs.length c,.int .i64 (at_:Int),.bool true,.int .i64 0] 269)::L) at O;refine rC 4 I ?_;clear I a;refine uF rfl (j1 _ _ _ r A c bs at_ true 0 O rfl) ?_;rintro e w ⟨rfl,hT⟩;replace O:Sat _ _ (_::_):=O.ag hT;clear hT;refine j4 0 0 (aB rfl) ?_ ?_
 ·intro h6;intro a I;simp only[Bool.not_eq_true']at h6;contradiction
 ·intro h6;intro a I;simp only[Bool.not_eq_false']at h6;refine rO 9 I ?_;clear I a;refine aJ 0 0 (aU rfl rfl) ?_ ?_
  ·intro h8;refine uO 10 ?_;intro a I;refine eu I rfl wX rfl (jy _ _ _ r _ c bs _ _ O) ?_;rintro e w ⟨⟨older,rfl,ho⟩,O⟩
   ·refine .inr ⟨_,rfl,?_⟩;refine dj I ?_
    (rw[if_pos h8];exact⟨⟨older,rfl,ho⟩,_,O⟩)
  ·intro h8;refine uO 8 ?_;intro a I;refine eu I rfl wX rfl (jy _ _ _ r _ c bs _ _ O) ?_;rintro e w ⟨⟨older,rfl,ho⟩,O⟩
   ·refine .inr ⟨_,rfl,?_⟩;refine dj I ?_
    (rw[if_neg h8];exact⟨⟨older,rfl,ho⟩,_,O⟩)
def r8 (c:Option Code):Code:=match c with | some (.seq _ b)=>b | _=>.skip
theorem C1 (W w:World)(L:List As)(r q p:Nat)(A:Option Addr)(n c:Nat)(at_ err e0:Int)(live:Bool)  (hn:n≤140737488355328)(a:Act)(I:Ag a 59 [(0,.pointer (some ⟨q,0,none⟩)),(1,.pointer (some ⟨p,0,none⟩)),(2,.nilIface)])(O:Sat W w (a6 r (.cells #[.slice A n c,.int .i64 at_,.bool live,.int .i64 err] 269)::a6 q (.cells #[.pointer (some ⟨r,0,none⟩)] 196)::a6 p (.cells #[.int .i64 e0] 27)::L)):(r8 Tryz.f148.body).wp Tryz.prog (bodyPost Tryz.prog Tryz.f148 fun e w'=>e=.returned (.tuple #[])∧Sat W w' (a6 r (.cells #[.slice none 0 0,.int .i64 at_,.bool false,.int .i64 err] 269)::a6 q (.cells #[.pointer (some ⟨r,0,none⟩)] 196)::a6 p (.cells #[.int .i64 (if err≠0 then err else if at_<n then 52 else e0)] 27)::L)) a w:=by
 refine rC 1 I ?_;clear I a;intro a I;refine cF (fun w'=>Sat _ w' _) (by kernel_rfl) (by kernel_rfl) O.drew ?_;refine Q1 0 I (fun w O=>(an (I.ev rfl) y9 (by exact (O.p 1).cell rfl))) ?_;clear I a;refine bj 0 (fun w O=>(bc rfl)) ?_;refine bj 0 (fun w O=>(aa rfl ja)) ?_;refine bj 0 (fun w O=>(ld rfl)) ?_;refine bj 0 (fun w O=>(ld rfl)) ?_;refine bj 0 (fun w O=>(bc rfl)) ?_;refine bj 0 (fun w O=>(aa rfl gr)) ?_;refine bj 0 (fun w O=>(ld rfl)) ?_;refine bj 0 (fun w O=>(ak rfl bd)) ?_;intro a I;refine K.sE I rfl rfl rfl (fun w O=>(aq (I.ev rfl) (I.ev rfl))) ?_ ?_
 ·clear I a;intro h16;refine uQ 1 ?_;intro a I;refine wpQuiet_nil ?_;clear O;intro w O;refine rE 3 I ?_;clear I a;refine u1 0 (ld rfl) ?_;refine u1 0 (ld rfl) ?_;refine u1 0 (bc rfl) ?_;refine u1 0 (aa rfl nq) ?_;intro a I;refine kK I rfl rfl tA wq rfl O rfl ?_;clear O;intro w O;refine o1 0 I (bc (I.ev rfl)) ?_;clear I a;refine u1 0 (aa rfl gr) ?_;intro a I;refine kK I rfl rfl rB gG rfl O rfl ?_;clear O;intro w O;refine rO 6 I ?_;clear I a;refine u1 1 (Ch rfl vq (qD pR)) ?_;refine u1 0 (ai rfl rfl) ?_;refine u1 0 (ai rfl rfl) ?_;refine uN pR O ?_;clear O;intro b4 w O;refine uW (vs:=[_]) (cs':=[_]) rfl rfl wY O ?_;clear O;intro w O;refine uO 21 ?_;intro a I;replace I:=I.kp [0,1,2,3,4,41] rfl;refine rC 6 I ?_;clear I a
  refine u1 0 (ld rfl) ?_;refine u1 0 (bc rfl) ?_;refine u1 0 (aa rfl fO) ?_;refine u1 0 (ld rfl) ?_;refine aJ 0 0 (aD rfl rfl) ?_ ?_
  ·intro h49;refine uO 5 ?_;refine u1 0 (ld rfl) ?_;refine u1 0 (bc rfl) ?_;refine u1 0 (aa rfl fO) ?_;refine u1 0 (ld rfl) ?_;intro a I;refine kK I rfl rfl qk rZ rfl (O.p 3) rfl ?_;clear O;intro w O;refine rO 2 I ?_;clear I a;intro a I;refine jm (e:=.ret) ?_;refine mR I rfl  ?_
   first
    | (rw[if_pos h49];exact⟨rfl,(((O.p 3).p 3).p 3).drop⟩)
    | (rw[if_neg h49,if_pos h16];exact⟨rfl,(((O.p 3).p 3).p 3).drop⟩)
    | (rw[if_neg h49,if_neg h16];exact⟨rfl,O.drop⟩)
    | (rw[if_neg h49];exact⟨rfl,(((O.p 3).p 3).p 3).drop⟩)
  ·intro h49;refine uO 7 ?_;refine u1 12 (Cu rfl rfl (show isIface Tryz.prog 20=true by kernel_rfl)) ?_;intro a I;refine kK I rfl rfl qk rZ rfl (O.p 3) rfl ?_;clear O;intro w O;refine rO 2 I ?_;clear I a;intro a I;refine jm (e:=.ret) ?_;refine mR I rfl  ?_
   first
    | (rw[if_pos h49];exact⟨rfl,(((O.p 3).p 3).p 3).drop⟩)
    | (rw[if_neg h49,if_pos h16];exact⟨rfl,(((O.p 3).p 3).p 3).drop⟩)
    | (rw[if_neg h49,if_neg h16];exact⟨rfl,O.drop⟩)
    | (rw[if_neg h49];exact⟨rfl,(((O.p 3).p 3).p 3).drop⟩)
 ·clear I a;intro h16;refine uQ 1 ?_;intro a I;refine wpQuiet_nil ?_;clear O;intro w O;refine rE 3 I ?_;clear I a;refine u1 0 (ld rfl) ?_;refine u1 0 (ld rfl) ?_;refine u1 0 (bc rfl) ?_;refine u1 0 (aa rfl nq) ?_;intro a I;refine kK I rfl rfl tA wq rfl O rfl ?_;clear O;intro w O;refine o1 0 I (bc (I.ev rfl)) ?_;clear I a;refine u1 0 (aa rfl gr) ?_;intro a I;refine kK I rfl rfl rB gG rfl O rfl ?_;clear O;intro w O;refine rO 6 I ?_;clear I a;refine u1 1 (Ch rfl vq (qD pR)) ?_;refine u1 0 (ai rfl rfl) ?_;refine u1 0 (ai rfl rfl) ?_;refine uN pR O ?_;clear O;intro b4 w O;refine uW (vs:=[_]) (cs':=[_]) rfl rfl wY O ?_;clear O;intro w O;refine uO 21 ?_;intro a I;replace I:=I.kp [0,1,2,3,4,41] rfl;refine rC 6 I ?_;clear I a
  refine u1 0 (ld rfl) ?_;refine u1 0 (bc rfl) ?_;refine u1 0 (aa rfl fO) ?_;refine u1 0 (ld rfl) ?_;refine aJ 0 0 (aD rfl rfl) ?_ ?_
  ·intro h49;refine uO 5 ?_;refine u1 0 (ld rfl) ?_;refine u1 0 (bc rfl) ?_;refine u1 0 (aa rfl fO) ?_;refine u1 0 (ld rfl) ?_;intro a I;refine kK I rfl rfl qk rZ rfl (O.p 3) rfl ?_;clear O;intro w O;refine rO 2 I ?_;clear I a;intro a I;refine jm (e:=.ret) ?_;refine mR I rfl  ?_
   first
    | (rw[if_pos h49];exact⟨rfl,(((O.p 3).p 3).p 3).drop⟩)
    | (rw[if_neg h49,if_pos h16];exact⟨rfl,(((O.p 3).p 3).p 3).drop⟩)
    | (rw[if_neg h49,if_neg h16];exact⟨rfl,O.drop⟩)
    | (rw[if_neg h49];exact⟨rfl,(((O.p 3).p 3).p 3).drop⟩)
  ·intro h49;refine uO 7 ?_;refine u1 13 (Cu rfl rfl (show isIface Tryz.prog 20=true by kernel_rfl)) ?_;intro a I;refine jm (e:=.ret) ?_;refine mR I rfl  ?_
   first
    | (rw[if_pos h49];exact⟨rfl,(((O.p 3).p 3).p 3).drop⟩)
    | (rw[if_neg h49,if_pos h16];exact⟨rfl,(((O.p 3).p 3).p 3).drop⟩)
    | (rw[if_neg h49,if_neg h16];exact⟨rfl,O.drop⟩)
    | (rw[if_neg h49];exact⟨rfl,(((O.p 3).p 3).p 3).drop⟩)
theorem C3 (W w:World)(L:List As)(r q p:Nat)(A:Option Addr)(n c:Nat)(at_ err e0:Int)(live:Bool)  (hn:n≤140737488355328)(a:Act)(I:Ag a 59 [(0,.pointer (some ⟨q,0,none⟩)),(1,.pointer (some ⟨p,0,none⟩)),(2,.iface 271 (.agg #[.pointer (some ⟨r,0,none⟩)]))])(O:Sat W w (a6 r (.cells #[.slice A n c,.int .i64 at_,.bool live,.int .i64 err] 269)::a6 q (.cells #[.pointer (some ⟨r,0,none⟩)] 196)::a6 p (.cells #[.int .i64 e0] 27)::L)):(r8 Tryz.f148.body).wp Tryz.prog (bodyPost Tryz.prog Tryz.f148 fun e w'=>e=.returned (.tuple #[])∧Sat W w' (a6 r (.cells #[.slice none 0 0,.int .i64 at_,.bool false,.int .i64 err] 269)::a6 q (.cells #[.pointer (some ⟨r,0,none⟩)] 196)::a6 p (.cells #[.int .i64 (if err≠0 then err else 8)] 27)::L)) a w:=by
 refine rC 1 I ?_;clear I a;intro a I;refine cF (fun w'=>Sat _ w' _) (by kernel_rfl) (by kernel_rfl) O.drew ?_;refine Q1 0 I (fun w O=>(an (I.ev rfl) y9 (by exact (O.p 1).cell rfl))) ?_;clear I a;refine bj 0 (fun w O=>(bc rfl)) ?_;refine bj 0 (fun w O=>(aa rfl ja)) ?_;refine bj 0 (fun w O=>(ld rfl)) ?_;refine bj 0 (fun w O=>(ld rfl)) ?_;refine bj 0 (fun w O=>(bc rfl)) ?_;refine bj 0 (fun w O=>(aa rfl gr)) ?_;refine bj 0 (fun w O=>(ld rfl)) ?_;refine bj 0 (fun w O=>(ak rfl bd)) ?_;intro a I;refine K.sE I rfl rfl rfl (fun w O=>(aq (I.ev rfl) (I.ev rfl))) ?_ ?_
 ·clear I a;intro h16;refine uQ 1 ?_;intro a I;refine wpQuiet_nil ?_;clear O;intro w O;refine rE 3 I ?_;clear I a;refine u1 0 (ld rfl) ?_;refine u1 0 (ld rfl) ?_;refine u1 0 (bc rfl) ?_;refine u1 0 (aa rfl nq) ?_;intro a I;refine kK I rfl rfl tA wq rfl O rfl ?_;clear O;intro w O;refine o1 0 I (bc (I.ev rfl)) ?_;clear I a;refine u1 0 (aa rfl gr) ?_;intro a I;refine kK I rfl rfl rB gG rfl O rfl ?_;clear O;intro w O;refine rO 6 I ?_;clear I a;refine u1 1 (CK rfl vq) ?_;refine u1 0 (ai rfl rfl) ?_;refine u1 0 (ai rfl rfl) ?_;refine uN pR O ?_;clear O;intro b4 w O;refine uW (vs:=[_]) (cs':=[_]) rfl rfl wY O ?_;clear O;intro w O
  refine uO 7 ?_;refine u1 0 (aa rfl B0) ?_;refine u1 0 (ld rfl) ?_;refine u1 0 (ld rfl) ?_;refine u1 10 (FC rfl rfl EB (k:=3) (show (Tryz.prog.info? 269).map (·.size)=some 4 by kernel_rfl)) ?_;intro a I;replace I:=I.kp [0,1,2,3,4,41] rfl;refine rC 6 I ?_;clear I a;refine u1 0 (ld rfl) ?_;refine u1 0 (bc rfl) ?_;refine u1 0 (aa rfl fO) ?_;refine u1 0 (ld rfl) ?_;refine aJ 0 0 (aD rfl rfl) ?_ ?_
  ·intro h49;refine uO 5 ?_;refine u1 0 (ld rfl) ?_;refine u1 0 (bc rfl) ?_;refine u1 0 (aa rfl fO) ?_;refine u1 0 (ld rfl) ?_;intro a I;refine kK I rfl rfl qk rZ rfl (O.p 3) rfl ?_;clear O;intro w O;refine rO 2 I ?_;clear I a;intro a I;refine jm (e:=.ret) ?_;refine mR I rfl  ?_
   first
    | (rw[if_pos h49];exact⟨rfl,(((O.p 3).p 3).p 3).drop⟩)
    | (rw[if_neg h49,if_pos h16];exact⟨rfl,(((O.p 3).p 3).p 3).drop⟩)
    | (rw[if_neg h49,if_neg h16];exact⟨rfl,O.drop⟩)
    | (rw[if_neg h49];exact⟨rfl,(((O.p 3).p 3).p 3).drop⟩)
  ·intro h49;refine uO 7 ?_;refine u1 5 (xL rfl rfl (show isIface Tryz.prog 20=true by kernel_rfl)) ?_;intro a I;refine kK I rfl rfl qk rZ rfl (O.p 3) rfl ?_;clear O;intro w O;refine rO 2 I ?_;clear I a;intro a I;refine jm (e:=.ret) ?_;refine mR I rfl  ?_
   first
    | (rw[if_pos h49];exact⟨rfl,(((O.p 3).p 3).p 3).drop⟩)
    | (rw[if_neg h49,if_pos h16];exact⟨rfl,(((O.p 3).p 3).p 3).drop⟩)
    | (rw[if_neg h49,if_neg h16];exact⟨rfl,O.drop⟩)
    | (rw[if_neg h49];exact⟨rfl,(((O.p 3).p 3).p 3).drop⟩)
 ·clear I a;intro h16;refine uQ 1 ?_;intro a I;refine wpQuiet_nil ?_;clear O;intro w O;refine rE 3 I ?_;clear I a;refine u1 0 (ld rfl) ?_;refine u1 0 (ld rfl) ?_;refine u1 0 (bc rfl) ?_;refine u1 0 (aa rfl nq) ?_;intro a I;refine kK I rfl rfl tA wq rfl O rfl ?_;clear O;intro w O;refine o1 0 I (bc (I.ev rfl)) ?_;clear I a;refine u1 0 (aa rfl gr) ?_;intro a I;refine kK I rfl rfl rB gG rfl O rfl ?_;clear O;intro w O;refine rO 6 I ?_;clear I a;refine u1 1 (CK rfl vq) ?_;refine u1 0 (ai rfl rfl) ?_;refine u1 0 (ai rfl rfl) ?_;refine uN pR O ?_;clear O;intro b4 w O;refine uW (vs:=[_]) (cs':=[_]) rfl rfl wY O ?_;clear O;intro w O
  refine uO 7 ?_;refine u1 0 (aa rfl B0) ?_;refine u1 0 (ld rfl) ?_;refine u1 0 (ld rfl) ?_;refine u1 10 (FC rfl rfl EB (k:=3) (show (Tryz.prog.info? 269).map (·.size)=some 4 by kernel_rfl)) ?_;intro a I;replace I:=I.kp [0,1,2,3,4,41] rfl;refine rC 6 I ?_;clear I a;refine u1 0 (ld rfl) ?_;refine u1 0 (bc rfl) ?_;refine u1 0 (aa rfl fO) ?_;refine u1 0 (ld rfl) ?_;refine aJ 0 0 (aD rfl rfl) ?_ ?_
  ·intro h49;refine uO 5 ?_;refine u1 0 (ld rfl) ?_;refine u1 0 (bc rfl) ?_;refine u1 0 (aa rfl fO) ?_;refine u1 0 (ld rfl) ?_;intro a I;refine kK I rfl rfl qk rZ rfl (O.p 3) rfl ?_;clear O;intro w O;refine rO 2 I ?_;clear I a;intro a I;refine jm (e:=.ret) ?_;refine mR I rfl  ?_
   first
    | (rw[if_pos h49];exact⟨rfl,(((O.p 3).p 3).p 3).drop⟩)
    | (rw[if_neg h49,if_pos h16];exact⟨rfl,(((O.p 3).p 3).p 3).drop⟩)
    | (rw[if_neg h49,if_neg h16];exact⟨rfl,O.drop⟩)
    | (rw[if_neg h49];exact⟨rfl,(((O.p 3).p 3).p 3).drop⟩)
  ·intro h49;refine uO 7 ?_;refine u1 5 (xL rfl rfl (show isIface Tryz.prog 20=true by kernel_rfl)) ?_;intro a I;refine kK I rfl rfl qk rZ rfl (O.p 3) rfl ?_;clear O;intro w O;refine rO 2 I ?_;clear I a;intro a I;refine jm (e:=.ret) ?_;refine mR I rfl  ?_
   first
    | (rw[if_pos h49];exact⟨rfl,(((O.p 3).p 3).p 3).drop⟩)
    | (rw[if_neg h49,if_pos h16];exact⟨rfl,(((O.p 3).p 3).p 3).drop⟩)
    | (rw[if_neg h49,if_neg h16];exact⟨rfl,O.drop⟩)
    | (rw[if_neg h49];exact⟨rfl,(((O.p 3).p 3).p 3).drop⟩)
theorem yM (W w:World)(L:List As)(r q p:Nat)(A:Option Addr)(n c:Nat)(at_ err e0:Int)(live:Bool)(tx:TypeId)(vx:Value)(hne:tx≠271)(hn:n≤140737488355328)(a:Act)(I:Ag a 59 [(0,.pointer (some ⟨q,0,none⟩)),(1,.pointer (some ⟨p,0,none⟩)),(2,.iface tx vx)])(O:Sat W w (a6 r (.cells #[.slice A n c,.int .i64 at_,.bool live,.int .i64 err] 269)::a6 q (.cells #[.pointer (some ⟨r,0,none⟩)] 196)::a6 p (.cells #[.int .i64 e0] 27)::L)):(r8 Tryz.f148.body).wp Tryz.prog (bodyPost Tryz.prog Tryz.f148 fun e w'=>e=.returned (.tuple #[])∧Sat W w' (a6 r (.cells #[.slice none 0 0,.int .i64 at_,.bool false,.int .i64 err] 269)::a6 q (.cells #[.pointer (some ⟨r,0,none⟩)] 196)::a6 p (.cells #[.int .i64 (if err≠0 then err else 8)] 27)::L)) a w:=by
 refine rC 1 I ?_;clear I a;intro a I;refine cF (fun w'=>Sat _ w' _) (by kernel_rfl) (by kernel_rfl) O.drew ?_;refine Q1 0 I (fun w O=>(an (I.ev rfl) y9 (by exact (O.p 1).cell rfl))) ?_;clear I a;refine bj 0 (fun w O=>(bc rfl)) ?_;refine bj 0 (fun w O=>(aa rfl ja)) ?_;refine bj 0 (fun w O=>(ld rfl)) ?_;refine bj 0 (fun w O=>(ld rfl)) ?_;refine bj 0 (fun w O=>(bc rfl)) ?_;refine bj 0 (fun w O=>(aa rfl gr)) ?_;refine bj 0 (fun w O=>(ld rfl)) ?_;refine bj 0 (fun w O=>(ak rfl bd)) ?_;intro a I;refine K.sE I rfl rfl rfl (fun w O=>(aq (I.ev rfl) (I.ev rfl))) ?_ ?_
 ·clear I a;intro h16;refine uQ 1 ?_;intro a I;refine wpQuiet_nil ?_;clear O;intro w O;refine rE 3 I ?_;clear I a;refine u1 0 (ld rfl) ?_;refine u1 0 (ld rfl) ?_;refine u1 0 (bc rfl) ?_;refine u1 0 (aa rfl nq) ?_;intro a I;refine kK I rfl rfl tA wq rfl O rfl ?_;clear O;intro w O;refine o1 0 I (bc (I.ev rfl)) ?_;clear I a;refine u1 0 (aa rfl gr) ?_;intro a I;refine kK I rfl rfl rB gG rfl O rfl ?_;clear O;intro w O;refine rO 6 I ?_;clear I a;refine u1 1 (yP rfl hne vq (qD pR)) ?_;refine u1 0 (ai rfl rfl) ?_;refine u1 0 (ai rfl rfl) ?_;refine uN pR O ?_;clear O;intro b4 w O;refine uW (vs:=[_]) (cs':=[_]) rfl rfl wY O ?_;clear O;intro w O;refine uO 21 ?_;intro a I;replace I:=I.kp [0,1,2,3,4,41] rfl;refine rC 6 I ?_;clear I a
  refine u1 0 (ld rfl) ?_;refine u1 0 (bc rfl) ?_;refine u1 0 (aa rfl fO) ?_;refine u1 0 (ld rfl) ?_;refine aJ 0 0 (aD rfl rfl) ?_ ?_
  ·intro h49;refine uO 5 ?_;refine u1 0 (ld rfl) ?_;refine u1 0 (bc rfl) ?_;refine u1 0 (aa rfl fO) ?_;refine u1 0 (ld rfl) ?_;intro a I;refine kK I rfl rfl qk rZ rfl (O.p 3) rfl ?_;clear O;intro w O;refine rO 2 I ?_;clear I a;intro a I;refine jm (e:=.ret) ?_;refine mR I rfl  ?_
   first
    | (rw[if_pos h49];exact⟨rfl,(((O.p 3).p 3).p 3).drop⟩)
    | (rw[if_neg h49,if_pos h16];exact⟨rfl,(((O.p 3).p 3).p 3).drop⟩)
    | (rw[if_neg h49,if_neg h16];exact⟨rfl,O.drop⟩)
    | (rw[if_neg h49];exact⟨rfl,(((O.p 3).p 3).p 3).drop⟩)
  ·intro h49;refine uO 7 ?_;refine u1 5 (xL rfl rfl (show isIface Tryz.prog 20=true by kernel_rfl)) ?_;intro a I;refine kK I rfl rfl qk rZ rfl (O.p 3) rfl ?_;clear O;intro w O;refine rO 2 I ?_;clear I a;intro a I;refine jm (e:=.ret) ?_;refine mR I rfl  ?_
   first
    | (rw[if_pos h49];exact⟨rfl,(((O.p 3).p 3).p 3).drop⟩)
    | (rw[if_neg h49,if_pos h16];exact⟨rfl,(((O.p 3).p 3).p 3).drop⟩)
    | (rw[if_neg h49,if_neg h16];exact⟨rfl,O.drop⟩)
    | (rw[if_neg h49];exact⟨rfl,(((O.p 3).p 3).p 3).drop⟩)
 ·clear I a;intro h16;refine uQ 1 ?_;intro a I;refine wpQuiet_nil ?_;clear O;intro w O;refine rE 3 I ?_;clear I a;refine u1 0 (ld rfl) ?_;refine u1 0 (ld rfl) ?_;refine u1 0 (bc rfl) ?_;refine u1 0 (aa rfl nq) ?_;intro a I;refine kK I rfl rfl tA wq rfl O rfl ?_;clear O;intro w O;refine o1 0 I (bc (I.ev rfl)) ?_;clear I a;refine u1 0 (aa rfl gr) ?_;intro a I;refine kK I rfl rfl rB gG rfl O rfl ?_;clear O;intro w O;refine rO 6 I ?_;clear I a;refine u1 1 (yP rfl hne vq (qD pR)) ?_;refine u1 0 (ai rfl rfl) ?_;refine u1 0 (ai rfl rfl) ?_;refine uN pR O ?_;clear O;intro b4 w O;refine uW (vs:=[_]) (cs':=[_]) rfl rfl wY O ?_;clear O;intro w O;refine uO 21 ?_;intro a I;replace I:=I.kp [0,1,2,3,4,41] rfl;refine rC 6 I ?_;clear I a
  refine u1 0 (ld rfl) ?_;refine u1 0 (bc rfl) ?_;refine u1 0 (aa rfl fO) ?_;refine u1 0 (ld rfl) ?_;refine aJ 0 0 (aD rfl rfl) ?_ ?_
  ·intro h49;refine uO 5 ?_;refine u1 0 (ld rfl) ?_;refine u1 0 (bc rfl) ?_;refine u1 0 (aa rfl fO) ?_;refine u1 0 (ld rfl) ?_;intro a I;refine kK I rfl rfl qk rZ rfl (O.p 3) rfl ?_;clear O;intro w O;refine rO 2 I ?_;clear I a;intro a I;refine jm (e:=.ret) ?_;refine mR I rfl  ?_
   first
    | (rw[if_pos h49];exact⟨rfl,(((O.p 3).p 3).p 3).drop⟩)
    | (rw[if_neg h49,if_pos h16];exact⟨rfl,(((O.p 3).p 3).p 3).drop⟩)
    | (rw[if_neg h49,if_neg h16];exact⟨rfl,O.drop⟩)
    | (rw[if_neg h49];exact⟨rfl,(((O.p 3).p 3).p 3).drop⟩)
  ·intro h49;refine uO 7 ?_;refine u1 5 (xL rfl rfl (show isIface Tryz.prog 20=true by kernel_rfl)) ?_;intro a I;refine kK I rfl rfl qk rZ rfl (O.p 3) rfl ?_;clear O;intro w O;refine rO 2 I ?_;clear I a;intro a I;refine jm (e:=.ret) ?_;refine mR I rfl  ?_
   first
    | (rw[if_pos h49];exact⟨rfl,(((O.p 3).p 3).p 3).drop⟩)
    | (rw[if_neg h49,if_pos h16];exact⟨rfl,(((O.p 3).p 3).p 3).drop⟩)
    | (rw[if_neg h49,if_neg h16];exact⟨rfl,O.drop⟩)
    | (rw[if_neg h49];exact⟨rfl,(((O.p 3).p 3).p 3).drop⟩)
section
variable {P:Program} {Q:Exit→Act→List Frame→World→Prop} {a:Act} {cs cs':List Frame} {w w':World} {ops:Array Oper} {i:Nat} {rest:List Nat} {o:Oper} {v:Value}
theorem DZ (ho:ops[i]?=some o)(hg:o.guard=none)(hr:(execOp a.eval o).run P w=.ok .recover w')(hc:recoverD cs=some (v,cs'))(k:wpOpsS P ops Q rest (a.put o.dst v) cs' w'):wpOpsS P ops Q (i::rest) a cs w:=by
 rw[wpOpsS];simp only[ho,Region.wanted,hg,if_true,hr,hc];exact k
theorem DA (ho:ops[i]?=some o)(hg:o.guard=none)(hr:(execOp a.eval o).run P w=.ok .recover w')(hc:recoverD cs=none)(k:wpOpsS P ops Q rest (a.put o.dst .nilIface) cs w'):wpOpsS P ops Q (i::rest) a cs w:=by
 rw[wpOpsS];simp only[ho,Region.wanted,hg,if_true,hr,hc];exact k
theorem Jn (ho:ops[i]?=some o)(hg:o.guard=none)(hr:(execOp a.eval o).run P w=.ok (.value v) w')(k:wpOpsS P ops Q rest (a.put o.dst v) cs w'):wpOpsS P ops Q (i::rest) a cs w:=by
 rw[wpOpsS];simp only[ho,Region.wanted,hg,if_true,hr,Oper.upon];exact k
end
theorem zY {R:Ending→World→Prop}(x:Value)(u u':FrameMode)(w:World)(q p:Nat)
 (hx:∀(c₀:Frame) (cs:List Frame),c₀.mode=u→recoverD (c₀::cs)=some (x,{ c₀ with mode:=u' }::cs)∨(recoverD (c₀::cs)=none∧x=.nilIface∧u'=u))
 (h:∀a,Ag a 59 [(0,.pointer (some ⟨q,0,none⟩)),(1,.pointer (some ⟨p,0,none⟩)),(2,x)]→(r8 Tryz.f148.body).wp Tryz.prog (bodyPost Tryz.prog Tryz.f148 R) a w) :
 CallsD Tryz.prog 148 #[.pointer (some ⟨q,0,none⟩),.pointer (some ⟨p,0,none⟩)] u w fun e v w'=>v=u'∧R e w':=by
 refine callsD_of_wpS Tryz.func148 rfl fun c₀ cs hc=>wpS_seq (wpS_region ?_)
 have hA0:Ag { tmps:=#[.pointer (some ⟨q,0,none⟩),.pointer (some ⟨p,0,none⟩)]++Array.replicate (Tryz.f148.ntmps-2) undef,defers:=[] } 59 [(0,.pointer (some ⟨q,0,none⟩)),(1,.pointer (some ⟨p,0,none⟩))]:=
  Ag.enter _ 59 (by simp) (by intro z hz;simp at hz;rcases hz with rfl | rfl<;>rfl)
 show wpOpsS Tryz.prog _ _ [0,1] _ _ _
 have key:∀a' cs',Ag a' 59 [(0,.pointer (some ⟨q,0,none⟩)),(1,.pointer (some ⟨p,0,none⟩)),(2,x)]→cs'={ c₀ with mode:=u' }::cs→
  (r8 Tryz.f148.body).wpS Tryz.prog (bodyPostS Tryz.prog Tryz.f148 c₀ cs (fun e v w'=>v=u'∧R e w')) a' cs' w:=fun a' cs' I hcs=>
  wpS_of_wp (wp_mono (h a' I) fun e a2 w2 hq=>by
   cases e with
   | normal=>obtain⟨h1,v,h2,h3⟩:=hq;exact⟨h1,u',hcs,v,h2,rfl,h3⟩
   | ret=>obtain⟨h1,v,h2,h3⟩:=hq;exact⟨h1,u',hcs,v,h2,rfl,h3⟩
   | panic ch=>exact⟨hq.1,u',hcs,rfl,hq.2⟩
   | outgrown=>exact⟨u',rfl,hq⟩
   | exit i=>exact hq
   | goto l=>exact hq)
 rcases hx c₀ cs hc with h1 | ⟨h1,rfl,rfl⟩
 ·
  refine DZ rfl rfl rfl h1 ?_;have hA1:=hA0.put (d:=6) (by rfl) x;refine Jn rfl rfl (qQ (hA1.ev rfl)) ?_;have hA2:=hA1.put (d:=2) (by rfl) x;exact key _ _ (hA2.xY (.cons (i:=0) rfl (.cons (i:=1) rfl (.cons (i:=2) rfl .nil)))) rfl
 ·
  refine DA rfl rfl rfl h1 ?_;have hA1:=hA0.put (d:=6) (by rfl) .nilIface;refine Jn rfl rfl (qQ (hA1.ev rfl)) ?_;have hA2:=hA1.put (d:=2) (by rfl) .nilIface;exact key _ _ (hA2.xY (.cons (i:=0) rfl (.cons (i:=1) rfl (.cons (i:=2) rfl .nil)))) (by subst hc;rfl)
def dead (r:Nat)(at_ err:Int):As:=a6 r (.cells #[.slice none 0 0,.int .i64 at_,.bool false,.int .i64 err] 269)
def iN (q r:Nat):As:=a6 q (.cells #[.pointer (some ⟨r,0,none⟩)] 196)
def hP (p:Nat)(x:Int):As:=a6 p (.cells #[.int .i64 x] 27)
theorem oR {R:Ending→World→Prop}{a:Act}{E:Env}(W w:World)(L:List As)(r q p:Nat)(at_ err:Int)(x:Value)(u u':FrameMode)(hu:u≠.run)
 (hx:∀(c₀:Frame) (cs:List Frame),c₀.mode=u→recoverD (c₀::cs)=some (x,{ c₀ with mode:=u' }::cs)∨(recoverD (c₀::cs)=none∧x=.nilIface∧u'=u)) (hset:settle u'=.returning) (fin:Int)
 (htail:∀a,Ag a 59 [(0,.pointer (some ⟨q,0,none⟩)),(1,.pointer (some ⟨p,0,none⟩)),(2,x)]→(r8 Tryz.f148.body).wp Tryz.prog (bodyPost Tryz.prog Tryz.f148 fun e w'=>e=.returned (.tuple #[])∧Sat W w' (dead r at_ err::iN q r::hP p fin::L)) a w)
 (I:AB [{ target:=.fn (.func 148) #[.pointer (some ⟨q,0,none⟩),.pointer (some ⟨p,0,none⟩)],args:=#[] }] a 15 E) (h4:find 4 E=some (.pointer (some ⟨p,0,none⟩)))
 (hR:∀w',Sat W w' (dead r at_ err::iN q r::hP p fin::L)→R (.returned (.int .i64 fin)) w'):Leaves Tryz.prog Tryz.f98 a.tmps R a.defers u w:=by
 rw[I.defers]
 have hinv:(invoke (.fn (.func 148) #[.pointer (some ⟨q,0,none⟩),.pointer (some ⟨p,0,none⟩)]) #[]).run Tryz.prog w=.ok (.enter 148 #[.pointer (some ⟨q,0,none⟩),.pointer (some ⟨p,0,none⟩)]) w:=by
  have h:=kB (w:=w) (args:=#[.pointer (some ⟨q,0,none⟩),.pointer (some ⟨p,0,none⟩)]) HT;have e:(#[]:Array Value)++#[.pointer (some ⟨q,0,none⟩),.pointer (some ⟨p,0,none⟩)]=#[.pointer (some ⟨q,0,none⟩),.pointer (some ⟨p,0,none⟩)]:=by simp
  show (callFunc 148 ((#[]:Array Value)++#[.pointer (some ⟨q,0,none⟩),.pointer (some ⟨p,0,none⟩)])).run Tryz.prog w=_;rw[e,h]
 refine leaves_cons hu hinv (CallsD.mono (zY x u u' w q p hx htail) fun e v w' hh=>?_);obtain⟨rfl,rfl,O⟩:=hh;show Leaves Tryz.prog Tryz.f98 a.tmps R [] (settle v) w';rw[hset]
 have hc:w'.cell? ⟨p,0,none⟩=some (.int .i64 fin):=by
  have h2:=O.p 2;unfold hP at h2;exact h2.cell rfl
 have hres:=Kb (P:=Tryz.prog) (w:=w') (s:=4) (t:=27) I.base h4 qk hc;refine⟨.int .i64 fin,?_,hR w' O⟩;rw[nu];show (((#[ResultVar.cell 4 27]:Array ResultVar).mapM (sY a.tmps)).bind _).run Tryz.prog w'=_;rw[Sem.run_bind',GV hres]
 rfl
end Go.Proofs.YtkjabaihpkbfhaaGreat.Wk
namespace Go.Proofs.YtkjabaihpkbfhaaGreat.Wk
open Go Go.RowKit Go.Proofs.YtkjabaihpkbfhaaGreat Go.Proofs.YtkjabaihpkbfhaaGreat.K Go.Proofs.YtkjabaihpkbfhaaGreat.T
open K.D Go.Proofs.YtkjabaihpkbfhaaGreat.T
def qa (ok:Bool)(err at_:Int)(n:Nat):Int:=if err≠0 then err else if ok=false then 8 else if at_<n then 52 else 0
theorem mr {ok:Bool}{err at_:Int}{n:Nat}(h:ok=true):qa ok err at_ n=if err≠0 then err else if at_<n then 52 else 0:=by subst h;simp[qa]
theorem kR {ok:Bool}{err at_:Int}{n:Nat}(h:ok=false):qa ok err at_ n=if err≠0 then err else 8:=by subst h;simp[qa]
def BN (r:Nat)(ok:Bool)(e:Ending):Prop:=(ok=true∧e=.returned (.tuple #[]))∨(ok=false∧(xK (.iface 271 (.agg #[.pointer (some ⟨r,0,none⟩)])) e∨∃(tx:TypeId) (vx:Value),tx≠271∧xK (.iface tx vx) e))
theorem GO:∀(l:List PanicEntry),l.all (fun x=>!x.goexit)=true→l.dropWhile (fun x=>!x.goexit)=[]
 | [],_=>rfl
 | x :: l, h => by
   simp only[List.all_cons,Bool.and_eq_true]at h;rw[List.dropWhile_cons,if_pos h.1,GO l h.2]
theorem BQ {v:Value}{older:List PanicEntry}(ho:older.all (fun x=>!x.goexit)=true):settle (.panicking ({ v:=v,recovered:=true }::older))=.returning:=by
 simp only[settle];rw[GO older ho]
theorem Jf {v:Value}{older:List PanicEntry}(c₀:Frame)(cs:List Frame)(hc:c₀.mode=.panicking ({ v:=v,recovered:=false }::older)):recoverD (c₀::cs)=some (v,{ c₀ with mode:=.panicking ({ v:=v,recovered:=true }::older) }::cs):=by
 simp only[recoverD,hc]
theorem J3 (c₀:Frame)(cs:List Frame)(hc:c₀.mode=.returning):recoverD (c₀::cs)=none:=by
 simp only[recoverD,hc]
theorem jH (W w:World)(L:List As)(A:Option Addr)(c:Nat)(bs:List UInt8)(Φ:Nat→Int→Int→Bool→List As→Prop)(fid:Nat)(caps:List Value)(O:Sat W w (L))(hb:bs.length≤140737488355328)(hen:enters Tryz.prog fid=true)(hcl:∀(w:World) (r q p:Nat),Sat W w (hZ r A c bs 0 true 0::iN q r::hP p 0::L)→Calls Tryz.prog fid ([Value.pointer (some ⟨r,0,none⟩)]++caps).toArray w fun e w'=>∃(at' err:Int) (ok:Bool) (M:List As),BN r ok e∧Sat W w' (hZ r A c bs at' true err::iN q r::hP p 0::M)∧Φ r at' err ok M):Calls Tryz.prog 98 #[.slice A bs.length c,.func (.func fid) #[] caps.toArray] w fun e w'=>∃(r q p:Nat) (at' err:Int) (ok:Bool) (M:List As),e=.returned (.int .i64 (qa ok err at' bs.length))∧Sat W w' (dead r at' err::iN q r::hP p (qa ok err at' bs.length)::M)∧Φ r at' err ok M:=by
 refine F6 Tryz.func98 rfl rfl rfl (.cons (i:=0) rfl (.cons (i:=1) rfl .nil)) ?_;intro a I;refine wp_seq_k fun k1 hk1=>?_;refine wp_region_lit ?_;refine goN I rfl J1 O ?_;clear I a O;intro b4 w O a I;refine wpList_nil ?_;refine hk1 _ _ ?_;clear hk1 k1;refine wp_seq_k fun k2 hk2=>?_;refine wp_region_lit ?_;refine yI I rfl rfl rfl (xV (I.ev rfl)) ?_;clear I a;intro a I;refine yI I rfl rfl rfl (ar I rfl DQ) ?_;clear I a;intro a I;refine Kk I rfl rfl O ?_;clear I a O;intro b8 w O a I;refine goN I rfl Ib O ?_;clear I a O;intro b5 w O a I;refine kK I rfl rfl y9 I1 rfl O rfl ?_;clear O;intro w O;refine wpList_nil ?_;refine hk2 _ _ ?_;clear hk2 k2;replace I:=I.xY (.cons (i:=1) rfl (.cons (i:=4) rfl (.cons (i:=5) rfl .nil)));refine wp_seq_k fun k3 hk3=>?_;refine wp_region_lit ?_
 refine yI I rfl rfl rfl (qY (I.mW rfl)) ?_;clear I a;intro a I;refine F2 I rfl ?_;clear I a;intro a I;refine wpList_nil ?_;refine hk3 _ _ ?_;clear hk3 k3;replace I:=I.xY (.cons (i:=1) rfl (.cons (i:=4) rfl (.cons (i:=5) rfl .nil)));refine wp_seq_k fun k4 hk4=>?_;refine wp_seq_k fun k5 hk5=>?_;refine wp_region_lit ?_;refine yI I rfl rfl rfl (xV (I.ev rfl)) ?_;clear I a;intro a I;refine yI I rfl rfl rfl (Hg (I.ev rfl) (I.ev rfl) (AR I4).choose_spec.choose_spec.choose_spec) ?_;clear I a;intro a I;refine wpList_nil ?_;refine hk5 _ _ ?_;clear hk5 k5;replace I:=I.xY (.cons (i:=1) rfl (.cons (i:=4) rfl (.cons (i:=5) rfl (.cons (i:=11) rfl .nil))));refine wp_cond_true (I.ev rfl) ?_;refine wp_region_lit ?_;refine yI I rfl rfl rfl (xV (I.ev rfl)) ?_;clear I a;intro a I
 refine yI I rfl rfl rfl (an (I.ev rfl) y9 (by exact O.cell rfl)) ?_;clear I a;intro a I;refine Be I rfl hen rfl rfl (hcl _ b8 b5 b4 O.qN) ?_;obtain⟨r,hr⟩:∃r,r=b8:=⟨_,rfl⟩;obtain⟨q,hq⟩:∃q,q=b5:=⟨_,rfl⟩;obtain⟨p,hp⟩:∃p,p=b4:=⟨_,rfl⟩;subst hr hq hp;clear O;rintro e w ⟨at',err,ok,M,(⟨hok,rfl⟩ | ⟨hok,(⟨older,rfl,ho⟩ | ⟨tx,vx,htx,older,rfl,ho⟩)⟩),O,hΦ⟩
 ·
  skip
  change Sat W w (a6 r (.cells #[.slice A bs.length c,.int .i64 at',.bool true,.int .i64 err] 269)::a6 q (.cells #[.pointer (some ⟨r,0,none⟩)] 196)::a6 p (.cells #[.int .i64 0] 27)::M) at O;refine .inl ⟨_,rfl,?_⟩;clear I a;intro a I;refine wpList_nil ?_;refine hk4 _ _ ?_;clear hk4 k4;replace I:=I.xY (.cons (i:=4) rfl .nil);refine wp_seq_k fun k6 hk6=>?_;refine wp_region_lit ?_;refine kK I rfl rfl qk rZ rfl (O.p 2) rfl ?_;clear O;intro w O;refine wpList_nil ?_;refine hk6 _ _ ?_;clear hk6 k6;refine wp_ret ?_;replace O:=((O.p 2).p 2);exact oR W w M r q p at' err .nilIface .returning .returning (by simp) (fun c₀ cs hc=>.inr ⟨J3 c₀ cs hc,rfl,rfl⟩) rfl (qa ok err at' bs.length) (fun a I=>by have hh:=C1 W w M r q p A bs.length c at' err 0 true hb a I O;rw[mr hok];exact hh) I rfl (fun w' O=>⟨r,q,p,at',err,ok,M,by rfl,O,hΦ⟩)
 ·
  skip
  refine .inr ⟨_,rfl,?_⟩;refine uo ?_;clear hk4 k4;change Sat W w (a6 r (.cells #[.slice A bs.length c,.int .i64 at',.bool true,.int .i64 err] 269)::a6 q (.cells #[.pointer (some ⟨r,0,none⟩)] 196)::a6 p (.cells #[.int .i64 0] 27)::M) at O;exact oR W w M r q p at' err (.iface 271 (.agg #[.pointer (some ⟨r,0,none⟩)])) (.panicking ({ v:=(.iface 271 (.agg #[.pointer (some ⟨r,0,none⟩)])),recovered:=false }::older)) (.panicking ({ v:=(.iface 271 (.agg #[.pointer (some ⟨r,0,none⟩)])),recovered:=true }::older)) (by simp) (fun c₀ cs hc=>.inl (Jf c₀ cs hc)) (BQ ho) (qa ok err at' bs.length) (fun a I=>by have hh:=C3 W w M r q p A bs.length c at' err 0 true hb a I O;rw[kR hok];exact hh) I rfl (fun w' O=>⟨r,q,p,at',err,ok,M,by rfl,O,hΦ⟩)
 ·
  skip
  refine .inr ⟨_,rfl,?_⟩;refine uo ?_;clear hk4 k4;change Sat W w (a6 r (.cells #[.slice A bs.length c,.int .i64 at',.bool true,.int .i64 err] 269)::a6 q (.cells #[.pointer (some ⟨r,0,none⟩)] 196)::a6 p (.cells #[.int .i64 0] 27)::M) at O;exact oR W w M r q p at' err (.iface tx vx) (.panicking ({ v:=(.iface tx vx),recovered:=false }::older)) (.panicking ({ v:=(.iface tx vx),recovered:=true }::older)) (by simp) (fun c₀ cs hc=>.inl (Jf c₀ cs hc)) (BQ ho) (qa ok err at' bs.length) (fun a I=>by have hh:=yM W w M r q p A bs.length c at' err 0 true tx vx htx hb a I O;rw[kR hok];exact hh) I rfl (fun w' O=>⟨r,q,p,at',err,ok,M,by rfl,O,hΦ⟩)
end Go.Proofs.YtkjabaihpkbfhaaGreat.Wk
namespace Go.Proofs.YtkjabaihpkbfhaaGreat.Wk
open Go Go.RowKit Go.Proofs.YtkjabaihpkbfhaaGreat Go.Proofs.YtkjabaihpkbfhaaGreat.K Go.Proofs.YtkjabaihpkbfhaaGreat.T
def seqB {α:Type}(g:Option α→α→List UInt8):Option α→List α→List UInt8
 | _,[]=>[]
 | p,x::l=>g p x++seqB g (some x) l
def j7 {α:Type}(F:Option α→α→Prop):Option α→List α→Prop
 | _,[]=>True
 | p,x::l=>F p x∧j7 F (some x) l
theorem qO {α:Type}{f:Option α→α→Bool}:∀ {l:List α} {p:Option α},kJ f p l=true↔j7 (fun p x=>f p x=true) p l
 | [],_=>by simp[kJ,j7]
 | x::l,p=>by rw[kJ,j7,Bool.and_eq_true,qO]
theorem wG {α:Type}{F G:Option α→α→Prop}(h:∀p x,F p x→G p x):∀ {l:List α} {p:Option α},j7 F p l→j7 G p l
 | [],_,_=>trivial
 | _::_,_,hc=>⟨h _ _ hc.1,wG h hc.2⟩
def dG {α:Type}(f:Option α→List UInt8→Option (α×List UInt8)):Nat→Option α→List UInt8→Option (List α×List UInt8)
 | 0,_,l=>some ([],l)
 | n + 1, p, l => match f p l with
   | none=>none
   | some (x, r) => match dG f n (some x) r with
     | none=>none
     | some (xs,r')=>some (x::xs,r')
theorem ph {α:Type}{f:Option α→List UInt8→Option (α×List UInt8)}{n:Nat}{p:Option α}{l:List UInt8}(h:f p l=none):dG f (n+1) p l=none:=by rw[dG,h]
theorem mN {α:Type}{f:Option α→List UInt8→Option (α×List UInt8)}{n:Nat}{p:Option α}{l r:List UInt8}{x:α}(h:f p l=some (x,r)):dG f (n+1) p l=(dG f n (some x) r).map fun q=>(x::q.1,q.2):=by
 rw[dG,h];simp only;cases dG f n (some x) r with
 | none=>rfl
 | some q=>rfl
structure HA (α:Type) where
 g:Option α→α→List UInt8
 F:Option α→α→Prop
 f:Option α→List UInt8→Option (α×List UInt8)
 P:Option α→Prop
 law:∀p,P p→∀l x r,f p l=some (x,r)↔l=g p x++r∧F p x
 step:∀p x,P p→F p x→P (some x)
theorem HA.seq {α:Type}(M:HA α):∀(n:Nat) (p:Option α),M.P p→∀l xs r,dG M.f n p l=some (xs,r)↔l=seqB M.g p xs++r∧j7 M.F p xs∧xs.length=n
 | 0, p, hp, l, xs, r => by
   rw[dG];constructor
   ·
    intro h;cases h;exact⟨rfl,trivial,rfl⟩
   ·
    rintro ⟨rfl,_,h⟩;obtain rfl:=List.eq_nil_of_length_eq_zero h
    rfl
 | n + 1, p, hp, l, xs, r => by
   constructor
   ·
    intro h;cases e:M.f p l with
    | none=>rw[ph e]at h;cases h
    | some q =>
      obtain⟨x,l'⟩:=q;rw[mN e]at h;obtain⟨⟨ys,r'⟩,hq,h2⟩:=Option.map_eq_some_iff.1 h;cases h2;obtain⟨rfl,hF⟩:=(M.law p hp l x l').1 e;obtain⟨rfl,hc,hl⟩:=(M.seq n (some x) (M.step p x hp hF) l' ys r').1 hq;exact⟨by rw[seqB,List.append_assoc],⟨hF,hc⟩,by simp[hl]⟩
   ·
    rintro ⟨rfl,hc,hl⟩;cases xs with
    | nil=>cases hl
    | cons x xs =>
      have e:=(M.law p hp (seqB M.g p (x::xs)++r) x (seqB M.g (some x) xs++r)).2 ⟨by rw[seqB,List.append_assoc],hc.1⟩;rw[mN e,(M.seq n (some x) (M.step p x hp hc.1) _ xs r).2 ⟨rfl,hc.2,by simpa using hl⟩]
      rfl
theorem j2 {α:Type}{g:Option α→α→List UInt8}{k:Nat}(h:∀p x,k≤(g p x).length):∀(l:List α) (p:Option α),l.length * k≤(seqB g p l).length
 | [],_=>by simp
 | x :: l, p => by
   have:=h p x;have:=j2 h l (some x);rw[seqB,List.length_append,List.length_cons,Nat.add_mul];omega
theorem sT {α:Type}{g:Option α→α→List UInt8}:∀(l:List α) (p:Option α) (x:α),seqB g p (l++[x])=seqB g p l++g (match l.getLast? with | some y=>some y | none=>p) x
 | [],p,x=>by simp[seqB]
 | y :: l, p, x => by
   rw[List.cons_append,seqB,seqB,sT l (some y) x,List.append_assoc]
   congr 3
   cases l with
   | nil=>rfl
   | cons z l =>
     rw[List.getLast?_cons_cons];cases e:(z::l).getLast? with
     | none=>simp at e
     | some y=>rfl
def bh (cQ:Int)(l:List UInt8):Option (Nat×List UInt8):=if (gi 9 0 l).1=0∧((gi 9 0 l).2.1:Int)≤cQ then some ((gi 9 0 l).2.1,l.drop (gi 9 0 l).2.2) else none
theorem aW {cQ:Int}{l r:List UInt8}{v:Nat}:bh cQ l=some (v,r)↔l=aV v++r∧(v:Int)≤cQ∧v≤9223372036854775807:=by
 unfold bh;constructor
 ·
  intro h
  split at h
  ·
   rename_i hc;obtain⟨rfl,rfl⟩:(gi 9 0 l).2.1=v∧l.drop (gi 9 0 l).2.2=r:=by simpa using h
   have e:gi 9 0 l=(0,(gi 9 0 l).2.1,(gi 9 0 l).2.2):=Prod.ext hc.1 rfl;obtain⟨_,_,h3,_,h5⟩:=tp 9 0 l _ _ e;refine⟨?_,hc.2,by have:(128:Nat) ^ 9=9223372036854775808:=(by decide);omega⟩;rw[←h5,List.take_append_drop]
  ·
   cases h
 ·
  rintro ⟨rfl,h1,h2⟩;have e:=EL 9 0 v r (by have:(128:Nat) ^ 9=9223372036854775808:=(by decide);omega) (fun h=>absurd h (by omega)) (by omega);rw[e];simp[h1]
def cy (cQ:Int)(l:List UInt8):Option (List UInt8×List UInt8):=match bh cQ l with
 | none=>none
 | some (n,r)=>if n≤r.length then some (r.take n,r.drop n) else none
theorem dY {cQ:Int}{l r s:List UInt8}:cy cQ l=some (s,r)↔l=aV s.length++s++r∧(s.length:Int)≤cQ∧s.length≤9223372036854775807:=by
 unfold cy;constructor
 ·
  intro h
  split at h
  ·
   cases h
  ·
   rename_i n r' e;obtain⟨rfl,h1,h2⟩:=aW.1 e
   split at h
   ·
    rename_i hn;obtain⟨rfl,rfl⟩:r'.take n=s∧r'.drop n=r:=by simpa using h
    have hl:(r'.take n).length=n:=by simp;omega
    rw[hl,List.append_assoc,List.take_append_drop];exact⟨rfl,h1,h2⟩
   ·
    cases h
 ·
  rintro ⟨rfl,h1,h2⟩;rw[List.append_assoc,aW.2 ⟨rfl,h1,h2⟩];simp
theorem tw {bs:List UInt8}{i:Nat}{mo:Int}(h:(gN bs i mo).2.2=0):bh mo (bs.drop i)=some ((gN bs i mo).1,bs.drop (gN bs i mo).2.1):=by
 by_cases h1:(dr bs i).2.2=0
 ·
  by_cases h2:((dr bs i).1:Int)≤mo
  ·
   rw[sw h1 h2]
   by_cases h3:(gi 9 0 (bs.drop i)).1=0
   ·
    unfold dr at h2 ⊢;rw[if_pos h3]at h2 ⊢;simp only at h2 ⊢;unfold bh;rw[if_pos ⟨h3,h2⟩,List.drop_drop]
   ·
    unfold dr at h1;rw[if_neg h3]at h1;exact absurd h1 h3
  ·
   rw[rz h1 (by omega)]at h;cases h
 ·
  rw[rq h1]at h;exact absurd h h1
theorem oN {bs:List UInt8}{i:Nat}{mo:Int}(h:(gN bs i mo).2.2≠0):bh mo (bs.drop i)=none:=by
 unfold bh;rw[if_neg];rintro ⟨h1,h2⟩;apply h;have h3:dr bs i=((gi 9 0 (bs.drop i)).2.1,i+(gi 9 0 (bs.drop i)).2.2,0):=by unfold dr;rw[if_pos h1]
 rw[sw (by rw[h3]) (by rw[h3];exact h2)]
theorem FO {bs:List UInt8}{i:Nat}{mo:Int}(h:(nM bs i mo).2.2=0):cy mo (bs.drop i)=some ((nM bs i mo).1,bs.drop (nM bs i mo).2.1):=by
 by_cases h1:(gN bs i mo).2.2=0
 ·
  by_cases h2:(gN bs i mo).1≤bs.length-(gN bs i mo).2.1
  ·
   rw[uJ h1 h2];unfold cy;rw[tw h1];simp only;rw[if_pos (by rw[List.length_drop];exact h2),List.drop_drop]
  ·
   rw[pa h1 (by omega)]at h;cases h
 ·
  rw[tB h1]at h;exact absurd h h1
theorem wQ {bs:List UInt8}{i:Nat}{mo:Int}(h:(nM bs i mo).2.2≠0):cy mo (bs.drop i)=none:=by
 unfold cy
 by_cases h1:(gN bs i mo).2.2=0
 ·
  rw[tw h1];simp only;rw[if_neg];intro h2;rw[List.length_drop]at h2;rw[uJ h1 h2]at h;exact h rfl
 ·
  rw[oN h1]
def kz (cQ:Int):HA Int where
 g _ x:=aV x.toNat
 F _ x:=0≤x∧x≤cQ∧x≤9223372036854775807
 f _ l := match bh cQ l with
   | none=>none
   | some (v,r)=>some ((v:Int),r)
 P _:=True
 step _ _ _ _:=trivial
 law p _ l x r:=by
  constructor
  ·
   intro h
   split at h
   ·
    cases h
   ·
    rename_i v r' e;cases h;obtain⟨rfl,h1,h2⟩:=aW.1 e;exact⟨by simp,by omega,h1,by omega⟩
  ·
   rintro ⟨rfl,h1,h2,h3⟩;rw[aW.2 ⟨rfl,by omega,by omega⟩];simp[Int.toNat_of_nonneg h1]
def bV (p:Option aL):Int:=match p with | some q=>q.rep | none=>0
def bt (vec:List Int)(p:Option aL)(rep:Int):Int:=match p with
 | some q=>if q.rep=rep then q.hi+2 else ay vec rep.toNat+2
 | none=>ay vec rep.toNat+2
def kv (vec:List Int)(p:Option aL)(s:aL):List UInt8:=aV (s.rep-bV p).toNat++(aV (s.lo-bt vec p s.rep).toNat++aV (s.hi-s.lo).toNat)
def fv (vec:List Int)(p:Option aL)(l:List UInt8):Option (aL×List UInt8):=match bh 16 l with
 | none=>none
 | some (st, l1) => if 16 ≤ bV p + st then none else match bh 1000000000 l1 with
   | none=>none
   | some (sk, l2) => match bh 1000000000 l2 with
     | none=>none
     | some (mo,l3)=>if 1000000000<bt vec p (bV p+st)+sk+mo then none else some (⟨bV p+st,bt vec p (bV p+st)+sk,bt vec p (bV p+st)+sk+mo⟩,l3)
def tE (vec:List Int)(hv:∀r,0≤ay vec r):HA aL where
 g:=kv vec
 F p s:=gW vec p s=true
 f:=fv vec
 P p:=∀q,p=some q→0≤q.rep∧0≤q.hi∧q.lo≤q.hi
 step p x hp h q hq:=by
  cases hq;unfold gW at h;simp only[Bool.and_eq_true,decide_eq_true_eq]at h;refine⟨h.1.1.1.1,?_,h.1.1.2⟩;have h2:=h.2;have:=hv x.rep.toNat;cases p with
  | none=>simp at h2;omega
  | some y =>
    have h3:=(hp y rfl).2.1;simp only[Bool.and_eq_true,decide_eq_true_eq]at h2;have h4:=h2.2
    split at h4<;>simp at h4<;>omega
 law p hp l x r:=by
  have hpr:0≤bV p:=by unfold bV;cases p with | none=>simp | some q=>exact (hp q rfl).1
  have hls:∀rep,0≤bt vec p rep:=fun rep=>by
   unfold bt;have:=hv rep.toNat;cases p with
   | none=>simp only;omega
   | some q=>have:=(hp q rfl).2.1;simp only;split<;>omega
  have hF:gW vec p x=true↔0≤x.rep∧x.rep<16∧x.lo≤x.hi∧x.hi≤1000000000∧bV p≤x.rep∧bt vec p x.rep≤x.lo:=by
   unfold gW bt bV;cases p with
   | none=>simp;omega
   | some q =>
     simp only[Bool.and_eq_true,decide_eq_true_eq];constructor
     ·
      rintro ⟨⟨⟨⟨a,b⟩,c⟩,d⟩,e,f⟩;refine⟨a,b,c,d,e,?_⟩
      split at f<;>rename_i he
      ·
       rw[if_pos he];simpa using f
      ·
       rw[if_neg he];simpa using f
     ·
      rintro ⟨a,b,c,d,e,f⟩;refine⟨⟨⟨⟨a,b⟩,c⟩,d⟩,e,?_⟩
      split at f<;>rename_i he
      ·
       rw[if_pos he];simpa using f
      ·
       rw[if_neg he];simpa using f
  rw[hF];unfold fv kv;constructor
  ·
   intro h
   split at h
   ·
    cases h
   ·
    rename_i st l1 e1
    split at h
    ·
     cases h
    ·
     rename_i hst
     split at h
     ·
      cases h
     ·
      rename_i sk l2 e2
      split at h
      ·
       cases h
      ·
       rename_i mo l3 e3
       split at h
       ·
        cases h
       ·
        rename_i hhi;obtain⟨rfl,_,_⟩:=aW.1 e1;obtain⟨rfl,_,_⟩:=aW.1 e2;obtain⟨rfl,_,_⟩:=aW.1 e3;cases h;have:=hls (bV p+st);refine⟨?_,by simp only;omega,by simp only;omega,by simp only;omega,by simp only;omega,by simp only;omega,by simp only;omega⟩;simp only;rw[show (bV p+(st:Int)-bV p).toNat=st from by omega,show (bt vec p (bV p+st)+(sk:Int)-bt vec p (bV p+st)).toNat=sk from by omega,show (bt vec p (bV p+st)+(sk:Int)+(mo:Int)-(bt vec p (bV p+st)+(sk:Int))).toNat=mo from by omega];simp only[List.append_assoc]
  ·
   rintro ⟨rfl,a,b,c,d,e,f⟩;have:=hls x.rep;rw[List.append_assoc,aW.2 ⟨rfl,by omega,by omega⟩];simp only;have e1:bV p+((x.rep-bV p).toNat:Int)=x.rep:=by omega
   rw[e1,if_neg (by omega),List.append_assoc,aW.2 ⟨rfl,by omega,by omega⟩];simp only;rw[aW.2 ⟨rfl,by omega,by omega⟩];simp only;have e2:bt vec p x.rep+((x.lo-bt vec p x.rep).toNat:Int)=x.lo:=by omega
   have e3:x.lo+((x.hi-x.lo).toNat:Int)=x.hi:=by omega
   rw[e2,e3,if_neg (by omega)]
def eH (p:aI):List UInt8:=aV p.vec.length++(seqB (kz 1000000000).g none p.vec++(aV p.ab.length++seqB (kv p.vec) none p.ab))
def cL (l:List UInt8):Option (aI×List UInt8):=match bh 16 l with
 | none=>none
 | some (n, l1) => match dG (kz 1000000000).f n none l1 with
   | none=>none
   | some (vec, l2) => match bh 9223372036854775807 l2 with
     | none=>none
     | some (k, l3) => match dG (fv vec) k none l3 with
       | none=>none
       | some (ab,r)=>some (⟨vec,ab⟩,r)
theorem oJ {cQ:Int}:∀ {l:List Int} {p:Option Int},j7 (kz cQ).F p l↔∀v∈l,0≤v∧v≤cQ∧v≤9223372036854775807
 | [],_=>by simp[j7]
 | x::l,p=>by rw[j7,oJ];simp[kz]
theorem vW {v:List Int}(h:∀x∈v,0≤x)(r:Nat):0≤ay v r:=by
 unfold ay;cases e:v[r]? with
 | none=>simp
 | some x=>exact h x (List.mem_of_getElem? e)
theorem iK {l r:List UInt8}{p:aI}(hp:p.ab.length≤9223372036854775807):cL l=some (p,r)↔l=eH p++r∧DP p:=by
 unfold cL eH;constructor
 ·
  intro h
  split at h
  ·
   cases h
  ·
   rename_i n l1 e1
   split at h
   ·
    cases h
   ·
    rename_i vec l2 e2
    split at h
    ·
     cases h
    ·
     rename_i k l3 e3
     split at h
     ·
      cases h
     ·
      rename_i ab r' e4;cases h;obtain⟨rfl,h1,_⟩:=aW.1 e1;obtain⟨rfl,h3,h4⟩:=((kz 1000000000).seq _ none trivial _ _ _).1 e2;obtain⟨rfl,_,_⟩:=aW.1 e3;have hv:=oJ.1 h3;obtain⟨rfl,h5,h6⟩:=((tE vec (vW fun x hx=>(hv x hx).1)).seq _ none (fun q hq=>by cases hq) _ _ _).1 e4;subst h4 h6;refine⟨by simp only[List.append_assoc];rfl,⟨by show vec.length≤16;omega,fun v hx=>⟨(hv v hx).1,(hv v hx).2.1⟩,qO.2 h5⟩⟩
 ·
  rintro ⟨rfl,h1,h2,h3⟩;rw[List.append_assoc,aW.2 ⟨rfl,by omega,by omega⟩];simp only;rw[List.append_assoc,((kz 1000000000).seq _ none trivial _ _ _).2 ⟨rfl,oJ.2 fun v hv=>⟨(h2 v hv).1,(h2 v hv).2,by have:=(h2 v hv).2;omega⟩,rfl⟩];simp only;rw[List.append_assoc,aW.2 ⟨rfl,by omega,hp⟩];simp only;have e:=((tE p.vec (vW fun x hx=>(h2 x hx).1)).seq p.ab.length none (fun q hq=>by cases hq) (seqB (kv p.vec) none p.ab++r) p.ab r).2 ⟨rfl,qO.1 h3,rfl⟩;rw[show dG (fv p.vec) p.ab.length none (seqB (kv p.vec) none p.ab++r)=some (p.ab,r) from e]
theorem xe (vec:List Int)(p:Option aL)(s:aL):3≤(kv vec p s).length:=by
 unfold kv;have:=cm (s.rep-bV p).toNat;have:=cm (s.lo-bt vec p s.rep).toNat;have:=cm (s.hi-s.lo).toNat;simp only[List.length_append];omega
theorem EG {α:Type}(M:HA α){c k:Nat}{p:Option α}{l r:List UInt8}{xs:List α}(hp:M.P p)(hk:∀p x,k≤(M.g p x).length)(h:dG M.f c p l=some (xs,r)):xs.length=c∧c * k+r.length≤l.length:=by
 obtain⟨rfl,_,h3⟩:=(M.seq c p hp l xs r).1 h;have:=j2 hk xs p;subst h3;rw[List.length_append];exact⟨rfl,by omega⟩
def a7 (p:Option aS):Int:=match p with | some q=>q.rep | none=>0
def dw (p:Option aS)(rep:Int):Int:=match p with
 | some q=>if q.rep=rep then q.num+1 else 1
 | none=>1
def oe (p:Option aS)(e:aS):List UInt8:=aV (e.rep-a7 p).toNat++(aV (e.num-dw p e.rep).toNat++(aV e.cM.data.toList.length++(e.cM.data.toList++aV (e.qy-1).toNat)))
def k9 (p:Option aS)(l:List UInt8):Option (aS×List UInt8):=match bh 16 l with
 | none=>none
 | some (st, l1) => match bh 1000000000 l1 with
   | none=>none
   | some (sk, l2) => if 16 ≤ a7 p + st ∨ 1000000000 < dw p (a7 p + st) + sk then none else match cy 24 l2 with
     | none=>none
     | some (t, l3) => match bh 1000000 l3 with
       | none=>none
       | some (q,l4)=>some (⟨a7 p+st,dw p (a7 p+st)+sk,str t,q+1⟩,l4)
def qq (p:Option aS)(e:aS):Prop:=0≤e.rep∧e.rep<16∧1≤e.num∧e.num≤1000000000∧e.cM.data.toList.length≤24∧1≤e.qy∧e.qy≤1000001∧a7 p≤e.rep∧dw p e.rep≤e.num
theorem zE (s:ByteArray):str s.data.toList=s:=by cases s;rfl
theorem Au (l:List UInt8):(str l).data.toList=l:=rfl
def yn:HA aS where
 g:=oe
 F:=qq
 f:=k9
 P p:=∀q,p=some q→0≤q.rep∧0≤q.num
 step p x hp h q hq:=by cases hq;exact⟨h.1,by have:=h.2.2.1;omega⟩
 law p hp l x r:=by
  have hpr:0≤a7 p:=by unfold a7;cases p with | none=>simp | some q=>exact (hp q rfl).1
  have hls:∀rep,1≤dw p rep:=fun rep=>by
   unfold dw;cases p with
   | none=>simp
   | some q=>have:=(hp q rfl).2;simp only;split<;>omega
  unfold k9 oe qq;constructor
  ·
   intro h
   split at h
   ·
    cases h
   ·
    rename_i st l1 e1
    split at h
    ·
     cases h
    ·
     rename_i sk l2 e2
     split at h
     ·
      cases h
     ·
      rename_i hc
      split at h
      ·
       cases h
      ·
       rename_i t l3 e3
       split at h
       ·
        cases h
       ·
        rename_i q l4 e4;cases h;obtain⟨rfl,_,_⟩:=aW.1 e1;obtain⟨rfl,_,_⟩:=aW.1 e2;obtain⟨rfl,h5,_⟩:=dY.1 e3;obtain⟨rfl,h6,_⟩:=aW.1 e4;have:=hls (a7 p+st);simp only[Au];refine⟨?_,by omega,by omega,by omega,by omega,by omega,by omega,by omega,by omega,by omega⟩;rw[show (a7 p+(st:Int)-a7 p).toNat=st from by omega,show (dw p (a7 p+st)+(sk:Int)-dw p (a7 p+st)).toNat=sk from by omega,show ((q:Int)+1-1).toNat=q from by omega];simp only[List.append_assoc]
  ·
   rintro ⟨rfl,a,b,c,d,e,f,g,i,j⟩;have:=hls x.rep;rw[List.append_assoc,aW.2 ⟨rfl,by omega,by omega⟩];simp only;rw[List.append_assoc,aW.2 ⟨rfl,by omega,by omega⟩];simp only;have e1:a7 p+((x.rep-a7 p).toNat:Int)=x.rep:=by omega
   have e2:dw p x.rep+((x.num-dw p x.rep).toNat:Int)=x.num:=by omega
   rw[e1,e2,if_neg (by omega)];have e3:=(dY (cQ:=24) (l:=aV x.cM.data.toList.length++(x.cM.data.toList++aV (x.qy-1).toNat)++r) (s:=x.cM.data.toList) (r:=aV (x.qy-1).toNat++r)).2 ⟨by simp only[List.append_assoc],by omega,by omega⟩;rw[e3];simp only;rw[aW.2 ⟨rfl,by omega,by omega⟩];simp only[zE];rw[show ((x.qy-1).toNat:Int)+1=x.qy from by omega]
theorem Ez (p:Option aS)(e:aS):5-1≤(oe p e).length:=by
 unfold oe;have:=cm (e.rep-a7 p).toNat;have:=cm (e.num-dw p e.rep).toNat;have:=cm e.cM.data.toList.length;have:=cm (e.qy-1).toNat;simp only[List.length_append];omega
def fb (es:List aS):List UInt8:=aV es.length++seqB oe none es
theorem o9 {es:List aS}(h:bP es=true):j7 qq none es:=by
 refine wG (F:=fun p x=>eY p x=true) ?_ (qO.1 h);intro p x h;unfold eY fM dK at h;simp only[Bool.and_eq_true,decide_eq_true_eq]at h;obtain⟨⟨⟨⟨⟨⟨⟨a,b⟩,c⟩,d⟩,s⟩,q⟩,r⟩,k⟩:=h
 have hs:x.cM.data.toList.length≤24:=by
  unfold lE Ck pW at s
  split at s
  ·
   simp at s
  ·
   split at s
   ·
    simp at s
   ·
    omega
 refine⟨a,b,c,d,hs,q,by omega,?_,?_⟩
 ·
  unfold a7;cases p with
  | none=>exact a
  | some y=>unfold nj at k;simp at k;simp only;omega
 ·
  unfold dw;cases p with
  | none=>exact c
  | some y=>unfold nj at k;simp at k;simp only;split<;>omega
def mT (_:Option bK)(r:bK):List UInt8:=aV r.cM.data.toList.length++(r.cM.data.toList++eH r.bx)
def sa (_:Option bK)(l:List UInt8):Option (bK×List UInt8):=match cy 24 l with
 | none=>none
 | some (t, l1) => match cL l1 with
   | none=>none
   | some (p,r)=>some (⟨str t,p⟩,r)
def EK (_:Option bK)(r:bK):Prop:=r.cM.data.toList.length≤24∧DP r.bx∧r.bx.ab.length≤9223372036854775807
theorem y1 {l r:List UInt8}{p:aI}(h:cL l=some (p,r)):p.ab.length≤9223372036854775807:=by
 unfold cL at h
 split at h
 ·
  cases h
 ·
  split at h
  ·
   cases h
  ·
   rename_i vec l2 e2
   split at h
   ·
    cases h
   ·
    rename_i k l3 e3
    split at h
    ·
     cases h
    ·
     rename_i ab r' e4;cases h;obtain⟨_,h3,_⟩:=((kz 1000000000).seq _ none trivial _ _ _).1 e2;have hv:=oJ.1 h3;obtain⟨_,_,h6⟩:=((tE vec (vW fun x hx=>(hv x hx).1)).seq _ none (fun q hq=>by cases hq) _ _ _).1 e4;have:=(aW.1 e3).2.2;show ab.length≤_;omega
def xS:HA bK where
 g:=mT
 F:=EK
 f:=sa
 P _:=True
 step _ _ _ _:=trivial
 law p hp l x r:=by
  unfold sa mT EK;constructor
  ·
   intro h
   split at h
   ·
    cases h
   ·
    rename_i t l1 e1
    split at h
    ·
     cases h
    ·
     rename_i q r' e2;cases h;have hc:=y1 e2;obtain⟨rfl,h1,_⟩:=dY.1 e1;obtain⟨rfl,h2⟩:=(iK hc).1 e2;simp only[Au];exact⟨by simp only[List.append_assoc],by omega,h2,hc⟩
  ·
   rintro ⟨rfl,h1,h2,h3⟩;have e3:=(dY (cQ:=24) (l:=aV x.cM.data.toList.length++(x.cM.data.toList++eH x.bx)++r) (s:=x.cM.data.toList) (r:=eH x.bx++r)).2 ⟨by simp only[List.append_assoc],by omega,by omega⟩;rw[e3];simp only;rw[(iK h3).2 ⟨rfl,h2⟩];simp only[zE]
def dO (rs:List bK):List UInt8:=aV rs.length++seqB mT none rs
theorem iG {α:Type}{g:Option α→α→List UInt8}{xs:List α}{i:Nat}{x:α}(h:xs[i]?=some x):seqB g none (xs.take (i+1))=seqB g none (xs.take i)++g (ahead none xs i) x:=by
 rw[aF h,sT]
 congr 2
 have hi:=(List.getElem?_eq_some_iff.1 h).1;unfold ahead
 by_cases h0:i=0
 ·
  subst h0;simp
 ·
  rw[if_neg h0]
  have:(xs.take i).getLast?=xs[i-1]?:=by
   rw[List.getLast?_eq_getElem?,List.length_take,Nat.min_eq_left (by omega),List.getElem?_take,if_pos (by omega)]
  rw[this,List.getElem?_eq_getElem (by omega)]
theorem dJ {α:Type}{xs:List α}{i:Nat}{x:α}(h:xs[i]?=some x):ahead none xs (i+1)=some x:=by unfold ahead;rw[if_neg (by omega)];exact h
theorem Cp {vec:List Int}{p:Option aL}{s:aL}(h:gW vec p s=true):0≤s.rep∧s.rep<16∧s.lo≤s.hi∧s.hi≤1000000000∧bV p≤s.rep∧bt vec p s.rep≤s.lo:=by
 unfold gW at h;unfold bt bV;cases p with
 | none=>simp at h;simp only;omega
 | some q =>
   simp only[Bool.and_eq_true,decide_eq_true_eq]at h;obtain⟨⟨⟨⟨a,b⟩,c⟩,d⟩,e,f⟩:=h;refine⟨a,b,c,d,e,?_⟩;simp only
   split at f<;>rename_i he
   ·
    rw[if_pos he];simpa using f
   ·
    rw[if_neg he];simpa using f
theorem jD {p:aI}(h:DP p){i:Nat}{s:aL}(hs:p.ab[i]?=some s):0≤s.rep∧s.rep<16∧s.lo≤s.hi∧s.hi≤1000000000∧bV (ahead none p.ab i)≤s.rep∧bt p.vec (ahead none p.ab i) s.rep≤s.lo:=Cp (lV h.ab i s hs)
theorem yj {p:aI}(h:DP p):∀(i:Nat) (s:aL),p.ab[i]?=some s→1≤s.lo:=by
 intro i
 induction i with
 | zero =>
   intro s hs;obtain⟨a,b,c,d,f,g⟩:=jD h hs;have hv:=dv h.vec s.rep.toNat;simp[ahead,bt]at g;omega
 | succ i ih =>
   intro s hs;have hi:=(List.getElem?_eq_some_iff.1 hs).1;have hq:p.ab[i]?=some p.ab[i]:=List.getElem?_eq_getElem (by omega);obtain⟨a,b,c,d,f,g⟩:=jD h hs;rw[dJ hq]at g;have hv:=dv h.vec s.rep.toNat;have h1:=ih _ hq;have h2:=(jD h hq).2.2.1;unfold bt at g;simp only at g
   split at g<;>omega
theorem xB {p:aI}(h:DP p){i:Nat}(r:Int):0≤bt p.vec (ahead none p.ab i) r∧bt p.vec (ahead none p.ab i) r≤1000000002:=by
 have hv:=dv h.vec r.toNat;unfold bt;cases e:ahead none p.ab i with
 | none=>simp only;omega
 | some q =>
   simp only
   split
   ·
    unfold ahead at e
    split at e
    ·
     cases e
    ·
     obtain⟨a,b,c,d,f,g⟩:=jD h e;have:=yj h _ _ e;omega
   ·
    omega
theorem y6 {p:aI}(h:DP p)(i:Nat):0≤bV (ahead none p.ab i):=by
 unfold bV;cases e:ahead none p.ab i with
 | none=>simp
 | some q =>
   unfold ahead at e
   split at e
   ·
    cases e
   ·
    exact (jD h e).1
theorem AE {es:List aS}(h:j7 qq none es){i:Nat}{e:aS}(he:es[i]?=some e):qq (ahead none es i) e:=by
 have:∀(l:List aS) (p:Option aS) (i:Nat) (e:aS),j7 qq p l→l[i]?=some e→qq (ahead p l i) e:=by
  intro l
  induction l with
  | nil=>intro p i e _ h;simp at h
  | cons y l ih =>
    intro p i e hc hi;cases i with
    | zero=>simp at hi;subst hi;simpa[ahead]using hc.1
    | succ i =>
      have h1:=ih (some y) i e hc.2 (by simpa using hi)
      have e2:ahead p (y::l) (i+1)=ahead (some y) l i:=by
       unfold ahead;simp;cases i with
       | zero=>simp
       | succ i=>simp
      rw[e2];exact h1
 exact this es none i e h he
theorem qf {vec:List Int}{cl:List aL}{n:Nat}{s:aL}(hn:n=cl.length)(hs:cl[n-1]?=some s):cl.getLast?=some s:=by subst hn;rw[List.getLast?_eq_getElem?];exact hs
theorem yS (W:World)(A:Option Addr)(c:Nat)(vec:List Int)(r:Int)(B:Option Addr)(n d:Nat)(cl:List aL)(hV:kY W A c vec)(hC:Rd W 3 (.slice B n d) n (cl.flatMap gH))(hn:n=cl.length)(hr0:0≤r)(hr1:r≤1000)(hv0:∀v∈vec,0≤v∧v≤1000000000)(hc0:∀s∈cl,0≤s.hi∧s.hi≤1000000000)(hl1:vec.length≤1000000000000)(hl2:n≤1000000000000):Calls Tryz.prog 392 #[.slice A (vec).length c,.int .i64 r,.slice B n d] W fun e w'=>e=.returned (.int .i64 (bt vec cl.getLast? r))∧Sat W w' []:=by
 refine bS Tryz.func392 [0,1,2] ?_;have O:=Sat.start W;refine uC 9 ?_;refine u1 6 (ak rfl dt) ?_;refine aJ 0 0 (cG rfl rfl) ?_ ?_
 ·intro h11;refine uO 3 ?_;refine u1 0 (aw (sb rfl rfl) (show _=Value.int .i64 ((n-1:Nat):Int) from congrArg (Value.int .i64) (by omega))) ?_;obtain⟨B_p,rfl⟩:∃q,B=some q:=(hC.sat O).au (by omega);obtain⟨s,hs⟩:∃zz_,cl[n-1]?=some zz_:=⟨_,List.getElem?_eq_getElem (by omega)⟩;obtain⟨hs1,hs2⟩:=hc0 s (List.mem_of_getElem? hs);refine u1 0 (ix rfl rfl dt cX) ?_;refine u1 0 (aC rfl cj) ?_;refine u1 1 (an rfl dA (bQ (hC.sat O) (dQ hs 0 _ rfl))) ?_;refine aJ 0 0 (aU rfl rfl) ?_ ?_
  ·intro h20;refine uO 8 ?_;refine u1 0 (aw (sb rfl rfl) (show _=Value.int .i64 ((n-1:Nat):Int) from congrArg (Value.int .i64) (by omega))) ?_;refine u1 0 (ix rfl rfl dt cX) ?_;refine u1 0 (aC rfl eE) ?_;refine u1 0 (an rfl dA (bQ (hC.sat O) (dQ hs 2 _ rfl))) ?_;refine u1 3 (ad rfl rfl) ?_;intro a I;replace I:=I.kp [0,1,6] rfl;refine rC 2 I ?_;clear I a;refine aY ?_;refine⟨?_,O⟩;unfold bt;rw[qf (vec:=vec) hn hs];simp only;rw[if_pos h20]
  ·intro h20;refine uO 11 ?_;refine u1 0 (ak rfl ax) ?_;refine aJ 0 0 (aq rfl rfl) ?_ ?_
   ·intro h32;refine uO 2 ?_;intro a I;replace I:=I.kp [0,1,6,32] rfl;refine rC 5 I ?_;clear I a;obtain⟨A_p,rfl⟩:∃q,A=some q:=(hV.sat O).au (by omega);obtain⟨v,hv⟩:∃zz_,vec[r.toNat]?=some zz_:=⟨_,List.getElem?_eq_getElem (by omega)⟩;obtain⟨hv1,hv2⟩:=hv0 v (List.mem_of_getElem? hv);refine u1 0 (ix rfl rfl ax eP) ?_;refine u1 0 (an rfl dA (fP (hV.sat O) (bu hv))) ?_;refine u1 5 (ad rfl rfl) ?_;refine aY ?_;refine⟨?_,O⟩;unfold bt;rw[qf (vec:=vec) hn hs];simp only;rw[if_neg h20,show ay vec r.toNat=v from by unfold ay;rw[hv]]
   ·intro h32;refine uO 2 ?_;intro a I;replace I:=I.kp [0,1,6,32] rfl;refine rC 9 I ?_;clear I a;refine aY ?_;refine⟨?_,O⟩;unfold bt;rw[qf (vec:=vec) hn hs];simp only;rw[if_neg h20,eK (by omega)]
    rfl
 ·intro h11;refine uO 20 ?_;refine u1 0 (ak rfl ax) ?_;refine aJ 0 0 (aq rfl rfl) ?_ ?_
  ·intro h32;refine uO 2 ?_;intro a I;replace I:=I.kp [0,1,6,32] rfl;refine rC 5 I ?_;clear I a;obtain⟨A_p,rfl⟩:∃q,A=some q:=(hV.sat O).au (by omega);obtain⟨v,hv⟩:∃zz_,vec[r.toNat]?=some zz_:=⟨_,List.getElem?_eq_getElem (by omega)⟩;obtain⟨hv1,hv2⟩:=hv0 v (List.mem_of_getElem? hv);refine u1 0 (ix rfl rfl ax eP) ?_;refine u1 0 (an rfl dA (fP (hV.sat O) (bu hv))) ?_;refine u1 5 (ad rfl rfl) ?_;refine aY ?_;refine⟨?_,O⟩;unfold bt;obtain rfl:cl=[]:=List.eq_nil_of_length_eq_zero (by omega);rw[show ([]:List aL).getLast?=none from rfl];simp only;rw[show ay vec r.toNat=v from by unfold ay;rw[hv]]
  ·intro h32;refine uO 2 ?_;intro a I;replace I:=I.kp [0,1,6,32] rfl;refine rC 9 I ?_;clear I a;refine aY ?_;refine⟨?_,O⟩;unfold bt;obtain rfl:cl=[]:=List.eq_nil_of_length_eq_zero (by omega);rw[show ([]:List aL).getLast?=none from rfl];simp only;rw[eK (by omega)]
   rfl
theorem Ju {bs:List UInt8}{i:Nat}{mo:Int}(h:(gN bs i mo).2.2=0):∃v at':Nat,gN bs i mo=(v,at',0)∧bh mo (bs.drop i)=some (v,bs.drop at')∧at'≤bs.length∧(v:Int)≤mo∧v≤9223372036854775807:=by
 have h1:=tw h
 have h2:(dr bs i).2.2=0:=by
  by_cases h2:(dr bs i).2.2=0
  ·
   exact h2
  ·
   rw[rq h2]at h;exact absurd h h2
 have h3:((dr bs i).1:Int)≤mo:=by
  by_cases h3:((dr bs i).1:Int)≤mo
  ·
   exact h3
  ·
   rw[rz h2 (by omega)]at h;cases h
 have h4:=qx h2;rw[sw h2 h3]at h1 ⊢;exact⟨_,_,rfl,h1,h4.2.1,h3,h4.2.2.1⟩
theorem KE {bs:List UInt8}{i:Nat}{ea:Int}(he:1≤ea)(h:(D3 bs i ea).2.2=0):∃v at':Nat,D3 bs i ea=(v,at',0)∧bh 9223372036854775807 (bs.drop i)=some (v,bs.drop at')∧at'≤bs.length∧v * ea.toNat≤bs.length-at':=by
 by_cases h2:(dr bs i).2.2=0
 ·
  by_cases h3:((bs.length:Int)-((dr bs i).2.1:Int)) / max ea 1<((dr bs i).1:Int)
  ·
   rw[xh h2 h3]at h;simp at h
  ·
   obtain⟨hm1,hm2⟩:=xZ (bs:=bs) (i:=i);have h4:=qx h2;obtain⟨v,a,hu,hn,ha,_,_⟩:=Ju (bs:=bs) (i:=i) (mo:=9223372036854775807) (by rw[hm1];exact h2);have e1:=(hm2 h2).1;have e2:=(hm2 h2).2;rw[hu]at e1 e2;dsimp only at e1 e2;refine⟨(dr bs i).1,(dr bs i).2.1,BC h2 h3,by rw[←e1,←e2];exact hn,h4.2.1,?_⟩;rw[show max ea 1=ea from by omega]at h3;have h5:((dr bs i).1:Int)≤((bs.length:Int)-((dr bs i).2.1:Int)) / ea:=by omega
   have h6:=(Int.le_ediv_iff_mul_le (by omega:0<ea)).1 h5;have h7:(((dr bs i).1 * ea.toNat:Nat):Int)=((dr bs i).1:Int) * ea:=by rw[Int.natCast_mul,Int.toNat_of_nonneg (by omega)]
   have:=h4.2.1;omega
 ·
  rw[Cv h2]at h;exact absurd h h2
theorem HG {bs:List UInt8}{i:Nat}{ea:Int}(he:1≤ea)(h:(D3 bs i ea).2.2≠0):bh 9223372036854775807 (bs.drop i)=none∨∃(v:Nat) (r:List UInt8),bh 9223372036854775807 (bs.drop i)=some (v,r)∧r.length<v * ea.toNat:=by
 obtain⟨hm1,hm2⟩:=xZ (bs:=bs) (i:=i)
 by_cases h2:(dr bs i).2.2=0
 ·
  by_cases h3:((bs.length:Int)-((dr bs i).2.1:Int)) / max ea 1<((dr bs i).1:Int)
  ·
   right
   have h4:=qx h2;obtain⟨v,a,hu,hn,ha,_,_⟩:=Ju (bs:=bs) (i:=i) (mo:=9223372036854775807) (by rw[hm1];exact h2);have e1:=(hm2 h2).1;have e2:=(hm2 h2).2;rw[hu]at e1 e2;dsimp only at e1 e2;refine⟨v,_,hn,?_⟩;rw[show max ea 1=ea from by omega]at h3;rw[←e1,←e2]at h3;have h5:¬((v:Int)≤((bs.length:Int)-(a:Int)) / ea):=by omega
   have h6:¬((v:Int) * ea≤(bs.length:Int)-(a:Int)):=fun hc=>h5 ((Int.le_ediv_iff_mul_le (by omega:0<ea)).2 hc)
   have h7:((v * ea.toNat:Nat):Int)=(v:Int) * ea:=by rw[Int.natCast_mul,Int.toNat_of_nonneg (by omega)]
   rw[List.length_drop];omega
  ·
   rw[BC h2 h3]at h;exact absurd rfl h
 ·
  left;exact oN (by rw[hm1];exact h2)
theorem Kn {bs:List UInt8}{i:Nat}{mo:Int}(h:(nM bs i mo).2.2=0):∃(s:List UInt8) (at':Nat),nM bs i mo=(s,at',0)∧cy mo (bs.drop i)=some (s,bs.drop at')∧at'≤bs.length:=by
 have h1:=FO h;refine⟨(nM bs i mo).1,(nM bs i mo).2.1,by rw[←h],h1,?_⟩
 by_cases h2:(gN bs i mo).2.2=0
 ·
  by_cases h3:(gN bs i mo).1≤bs.length-(gN bs i mo).2.1
  ·
   rw[uJ h2 h3];obtain⟨v,a,hu,_,ha,_,_⟩:=Ju h2;rw[hu]at h3 ⊢;dsimp only at h3 ⊢;omega
  ·
   rw[pa h2 (by omega)]at h;simp at h
 ·
  rw[tB h2]at h;exact absurd h h2
def mn (p:Option aS):Int:=match p with | some q=>q.num+1 | none=>1
theorem rW {p:Option aS}{r:Int}(h:r≠a7 p):dw p r=1:=by
 unfold dw;unfold a7 at h;cases p with
 | none=>rfl
 | some q=>simp only at h ⊢;rw[if_neg (fun e=>h e.symm)]
theorem ql {p:Option aS}{r:Int}(h:r=a7 p):dw p r=mn p:=by
 unfold dw mn;unfold a7 at h;cases p with
 | none=>rfl
 | some q=>simp only at h ⊢;rw[if_pos h.symm]
theorem CO {es:List aS}(h:j7 qq none es)(i:Nat):1≤mn (ahead none es i)∧mn (ahead none es i)≤1000000001:=by
 unfold mn;cases e:ahead none es i with
 | none=>simp
 | some q =>
   unfold ahead at e
   split at e
   ·
    cases e
   ·
    have:=AE h e;unfold qq at this;simp only;omega
theorem Dq {es:List aS}(h:j7 qq none es)(i:Nat)(r:Int):1≤dw (ahead none es i) r∧dw (ahead none es i) r≤1000000001:=by
 by_cases e:r=a7 (ahead none es i)
 ·
  rw[ql e];exact CO h i
 ·
  rw[rW e];omega
theorem yx {es:List aS}(h:j7 qq none es)(i:Nat):0≤a7 (ahead none es i):=by
 unfold a7;cases e:ahead none es i with
 | none=>simp
 | some q =>
   unfold ahead at e
   split at e
   ·
    cases e
   ·
    exact (AE h e).1
theorem BV {α:Type}{g:Option α→α→List UInt8}:∀(xs:List α) (p:Option α) (i:Nat),(seqB g p (xs.take i)).length≤(seqB g p xs).length
 | [],p,i=>by simp
 | x::xs,p,0=>by simp[seqB]
 | x :: xs, p, i + 1 => by
   rw[List.take_succ_cons,seqB,seqB,List.length_append,List.length_append];have:=BV (g:=g) xs (some x) i;omega
theorem o7 {r:bK}(h:eZ r=true):r.cM.data.toList.length≤24∧zm r.bx:=by
 unfold eZ at h;simp only[Bool.and_eq_true,Bool.or_eq_true,decide_eq_true_eq]at h;refine⟨?_,jT.1 h.2.1⟩;rcases h.1 with h1 | h1
 ·
  rw[h1];simp
 ·
  unfold lE Ck pW at h1
  split at h1
  ·
   simp at h1
  ·
   split at h1
   ·
    simp at h1
   ·
    omega
theorem yW {α:Type}{g:Option α→α→List UInt8}{F:Option α→α→Prop}{k:Nat}(h:∀p x,F p x→(g p x).length≤k):∀(l:List α) (p:Option α),j7 F p l→(seqB g p l).length≤l.length * k
 | [],_,_=>by simp[seqB]
 | x :: l, p, hc => by
   have h1:=h p x hc.1;have h2:=yW h l (some x) hc.2;rw[seqB,List.length_append,List.length_cons,Nat.add_mul];omega
theorem nine {n:Nat}(h:n≤9223372036854775807):(aV n).length≤9:=cB h
theorem ss {p:aI}(h:DP p)(hc:p.ab.length≤1000000000):(eH p).length≤200+27 * p.ab.length:=by
 unfold eH;have hv:=h.len;have h1:=nine (n:=p.vec.length) (by omega);have h2:=nine (n:=p.ab.length) (by omega)
 have h3:(seqB (kz 1000000000).g none p.vec).length≤p.vec.length * 9:=by
  refine yW (F:=(kz 1000000000).F) (fun _ x hx=>?_) _ _ (oJ.2 fun v hv2=>?_)
  ·
   exact nine (by have:=hx.1;have:=hx.2.2;omega)
  ·
   have:=h.vec v hv2;omega
 have h4:(seqB (kv p.vec) none p.ab).length≤p.ab.length * 27:=by
  have hcl:j7 (fun a b=>gW p.vec a b=true) none p.ab:=qO.1 h.ab
  have hb:∀(l:List aL) (q:Option aL),j7 (fun a b=>gW p.vec a b=true) q l→(∀y,q=some y→0≤y.rep∧0≤y.hi)→(seqB (kv p.vec) q l).length≤l.length * 27:=by
   intro l
   induction l with
   | nil=>intro q _ _;simp[seqB]
   | cons x l ih =>
     intro q hq hy;obtain⟨a,b,c,d,e,f⟩:=Cp hq.1;have hp:0≤bV q:=by unfold bV;cases q with | none=>simp | some y=>exact (hy y rfl).1
     have hl:0≤bt p.vec q x.rep:=by
      unfold bt;have:=dv h.vec x.rep.toNat;cases q with
      | none=>simp only;omega
      | some y=>have:=(hy y rfl).2;simp only;split<;>omega
     have h5:=ih (some x) hq.2 (fun y hy2=>by cases hy2;exact⟨a,by omega⟩);have n1:=nine (n:=(x.rep-bV q).toNat) (by omega);have n2:=nine (n:=(x.lo-bt p.vec q x.rep).toNat) (by omega);have n3:=nine (n:=(x.hi-x.lo).toNat) (by omega);have hg:(kv p.vec q x).length≤27:=by unfold kv;simp only[List.length_append];omega
     rw[seqB,List.length_append,List.length_cons,Nat.add_mul];omega
  exact hb _ none hcl (fun y hy=>by cases hy)
 simp only[List.length_append];omega
theorem tO {xs:List aS}(h:j7 qq none xs)(hl:xs.length≤1000000000):(fb xs).length≤9+60 * xs.length:=by
 unfold fb;have h1:=nine (n:=xs.length) (by omega)
 have h2:(seqB oe none xs).length≤xs.length * 60:=by
  have hb:∀(l:List aS) (q:Option aS),j7 qq q l→(∀y,q=some y→0≤y.rep∧0≤y.num)→(seqB oe q l).length≤l.length * 60:=by
   intro l
   induction l with
   | nil=>intro q _ _;simp[seqB]
   | cons x l ih =>
     intro q hq hy;obtain⟨a,b,c,d,e,f,g,i,j⟩:=hq.1;have hp:0≤a7 q:=by unfold a7;cases q with | none=>simp | some y=>exact (hy y rfl).1
     have hn:0≤dw q x.rep:=by
      unfold dw;cases q with
      | none=>simp
      | some y=>have:=(hy y rfl).2;simp only;split<;>omega
     have h5:=ih (some x) hq.2 (fun y hy2=>by cases hy2;exact⟨a,by omega⟩);have n1:=nine (n:=(x.rep-a7 q).toNat) (by omega);have n2:=nine (n:=(x.num-dw q x.rep).toNat) (by omega);have n3:=nine (n:=x.cM.data.toList.length) (by omega);have n4:=nine (n:=(x.qy-1).toNat) (by omega);have hg:(oe q x).length≤60:=by unfold oe;simp only[List.length_append];omega
     rw[seqB,List.length_append,List.length_cons,Nat.add_mul];omega
  exact hb _ none h (fun y hy=>by cases hy)
 rw[List.length_append];omega
theorem p8 {rs:List bK}(h:∀r∈rs,eZ r=true)(hs:dm (rs.map bK.bx)≤1000000000):(dO rs).length≤9+300 * dm (rs.map bK.bx):=by
 have hl:=oz (rs.map bK.bx);rw[List.length_map]at hl;unfold dO;have h1:=nine (n:=rs.length) (by omega)
 have h2:∀(l:List bK) (q:Option bK),(∀r∈l,eZ r=true∧r.bx.ab.length≤1000000000)→(seqB mT q l).length≤300 * dm (l.map bK.bx):=by
  intro l
  induction l with
  | nil=>intro q _;simp[seqB]
  | cons x l ih =>
    intro q hq;obtain⟨hw0,hw1⟩:=o7 (hq x (by simp)).1;have h3:=ss hw1.toDP (hq x (by simp)).2;have h4:=ih (some x) (fun r hr=>hq r (by simp[hr]));have h5:=nine (n:=x.cM.data.toList.length) (by omega);have h6:dm ((x::l).map bK.bx)=x.bx.ab.length+1+dm (l.map bK.bx):=by unfold dm;simp
    have hg:(mT q x).length≤33+(eH x.bx).length:=by unfold mT;simp only[List.length_append];omega
    rw[seqB,List.length_append,h6];omega
 have h3:=h2 rs none (fun r hr=>⟨h r hr,by have:=qM (List.mem_map.2 ⟨r,hr,rfl⟩:r.bx∈rs.map bK.bx);omega⟩);rw[List.length_append];omega
theorem kS (rs:List RL):(rs.map RL.d).map bK.bx=rs.map fun r=>r.p.d:=by rw[List.map_map];rfl
def fr (b:List UInt8):List UInt8:=aV b.length++b
def cC (k:Nat)(s:iR):List UInt8:=aV k++(fr (fb s.jn)++(fr (eH s.bx)++fr (dO s.mw)))
def jw (f:iR→Bool)(k:Nat)(s:iR):List UInt8:=if f s=true then cC k s else []
def wV (f:iR→Bool)(s:iR):Int:=if f s=true then 0 else 1
theorem mx {f:iR→Bool}{k:Nat}{s:iR}(h:f s=false):jw f k s=[]:=if_neg (by rw[h];decide)
theorem qK {f:iR→Bool}{s:iR}(h:f s=false):wV f s=1:=if_neg (by rw[h];decide)
theorem kM {f:iR→Bool}{k:Nat}{s:iR}(h:f s=true):jw f k s=cC k s:=if_pos h
theorem pe {f:iR→Bool}{s:iR}(h:f s=true):wV f s=0:=if_pos h
theorem aA {s:iR}(h:aH s=true):bP s.jn=true∧bg s.bx=true∧bZ s.mw=true:=by
 unfold aH at h;simpa only [Bool.and_eq_true]using h
theorem cT {s:iR}(h:bD s=true):aH s=true:=by
 unfold bD at h;rw[Bool.and_eq_true]at h;exact h.1
theorem iJ {α:Type}{f:Option α→List UInt8→Option (α×List UInt8)}{n:Nat}{p:Option α}{l r:List UInt8}{x:α}{xs:List α}{R:Option (List α×List UInt8)}
 (hq:R=(dG f (n+1) p l).map fun q=>(xs++q.1,q.2)) (h:f p l=some (x,r)):R=(dG f n (some x) r).map fun q=>(xs++[x]++q.1,q.2):=by
 rw[hq,mN h,Option.map_map]
 congr 1
 funext q
 simp
theorem c6 {α:Type}{f:Option α→List UInt8→Option (α×List UInt8)}{n:Nat}{p:Option α}{l:List UInt8}{xs:List α}{R:Option (List α×List UInt8)}
 (hq:R=(dG f (n+1) p l).map fun q=>(xs++q.1,q.2)) (h:f p l=none):R=none:=by rw[hq,ph h];rfl
theorem rk {α:Type}{f:Option α→List UInt8→Option (α×List UInt8)}{p:Option α}{l:List UInt8}{xs:List α}{R:Option (List α×List UInt8)}
 (hq:R=(dG f 0 p l).map fun q=>(xs++q.1,q.2)):R=some (xs,l):=by rw[hq,dG];simp
theorem jz {α:Type}{f:Option α→List UInt8→Option (α×List UInt8)}{n:Nat}{p:Option α}{l:List UInt8}:dG f n p l=(dG f n p l).map fun q=>(([]:List α)++q.1,q.2):=by
 cases dG f n p l with
 | none=>rfl
 | some q=>rfl
theorem bH {α:Type}(xs:List α)(x:α):(xs++[x]).getLast?=some x:=by simp
theorem cb (W w:World)(L:List As)(r:Nat)(A:Option Addr)(c:Nat)(bs:List UInt8)(at_:Nat)(mo:Int)(O:Sat W w (hZ r A c bs at_ true 0::L))(hat:at_≤bs.length)(hb:bs.length≤140737488355328)(hR:∀w,Sat W w L→Rd w 1 (.slice A bs.length c) bs.length (bs.map aj)):Calls Tryz.prog 100 #[.pointer (some ⟨r,0,none⟩),.int .i64 mo] w fun e w'=>
 (∃v at':Nat,bh mo (bs.drop at_)=some (v,bs.drop at')∧at'≤bs.length∧(v:Int)≤mo∧v≤9223372036854775807∧e=.returned (.int .i64 (v:Int))∧Sat W w' (hZ r A c bs (at':Int) true 0::L))∨(bh mo (bs.drop at_)=none∧xK (.iface 271 (.agg #[.pointer (some ⟨r,0,none⟩)])) e∧∃at' er:Int,er≠0∧Sat W w' (hZ r A c bs at' true er::L)):=
 (pZ W w L r A c bs at_ mo O hat hb hR).mono fun e w' h=>by
  rcases h with ⟨h0,he,hs⟩ | ⟨h0,hp,at',hs⟩
  ·
   obtain⟨v,a,hu,h1,h2,h3,h4⟩:=Ju h0;rw[hu]at he hs;exact .inl ⟨v,a,h1,h2,h3,h4,he,hs⟩
  ·
   exact .inr ⟨oN h0,hp,at',_,by omega,hs⟩
theorem hJ (W w:World)(L:List As)(r:Nat)(A:Option Addr)(c:Nat)(bs:List UInt8)(at_:Nat)(ea:Int)(O:Sat W w (hZ r A c bs at_ true 0::L))(hat:at_≤bs.length)(hb:bs.length≤140737488355328)(hR:∀w,Sat W w L→Rd w 1 (.slice A bs.length c) bs.length (bs.map aj))(h1:1≤ea)(h2:ea≤9223372036854775807):Calls Tryz.prog 102 #[.pointer (some ⟨r,0,none⟩),.int .i64 ea] w fun e w'=>
 (∃v at':Nat,bh 9223372036854775807 (bs.drop at_)=some (v,bs.drop at')∧at'≤bs.length∧v * ea.toNat≤bs.length-at'∧e=.returned (.int .i64 (v:Int))∧Sat W w' (hZ r A c bs (at':Int) true 0::L))∨
 ((bh 9223372036854775807 (bs.drop at_)=none∨∃(v:Nat) (rr:List UInt8),bh 9223372036854775807 (bs.drop at_)=some (v,rr)∧rr.length<v * ea.toNat)∧xK (.iface 271 (.agg #[.pointer (some ⟨r,0,none⟩)])) e∧∃at' er:Int,er≠0∧Sat W w' (hZ r A c bs at' true er::L)):=
 (xH W w L r A c bs at_ ea O hat hb hR h2).mono fun e w' h=>by
  rcases h with ⟨h0,he,hs⟩ | ⟨h0,hp,at',hs⟩
  ·
   obtain⟨v,a,hu,h3,h4,h5⟩:=KE h1 h0;rw[hu]at he hs;exact .inl ⟨v,a,h3,h4,h5,he,hs⟩
  ·
   exact .inr ⟨HG h1 h0,hp,at',_,by omega,hs⟩
theorem nz (W w:World)(L:List As)(r:Nat)(A:Option Addr)(c:Nat)(bs:List UInt8)(at_:Nat)(mo:Int)(O:Sat W w (hZ r A c bs at_ true 0::L))(hat:at_≤bs.length)(hb:bs.length≤140737488355328)(hR:∀w,Sat W w L→Rd w 1 (.slice A bs.length c) bs.length (bs.map aj)):Calls Tryz.prog 394 #[.pointer (some ⟨r,0,none⟩),.int .i64 mo] w fun e w'=>
 (∃(s:List UInt8) (at':Nat),cy mo (bs.drop at_)=some (s,bs.drop at')∧at'≤bs.length∧e=.returned (.string (str s))∧Sat W w' (hZ r A c bs (at':Int) true 0::L))∨(cy mo (bs.drop at_)=none∧xK (.iface 271 (.agg #[.pointer (some ⟨r,0,none⟩)])) e∧∃at' er:Int,er≠0∧Sat W w' (hZ r A c bs at' true er::L)):=
 (zU W w L r A c bs at_ mo O hat hb hR).mono fun e w' h=>by
  rcases h with ⟨h0,he,hs⟩ | ⟨h0,hp,at',hs⟩
  ·
   obtain⟨s,a,hu,h1,h2⟩:=Kn h0;rw[hu]at he hs;exact .inl ⟨s,a,h1,h2,he,hs⟩
  ·
   exact .inr ⟨wQ h0,hp,at',_,by omega,hs⟩
theorem wH {cQ:Int}{p:Option Int}{l r:List UInt8}{v:Nat}(h:bh cQ l=some (v,r)):(kz cQ).f p l=some ((v:Int),r):=by
 show (match bh cQ l with | none=>none | some (v,r)=>some ((v:Int),r))=_;rw[h]
theorem xp {cQ:Int}{p:Option Int}{l:List UInt8}(h:bh cQ l=none):(kz cQ).f p l=none:=by
 show (match bh cQ l with | none=>none | some (v,r)=>some ((v:Int),r))=_;rw[h]
theorem CN {l:List UInt8}(h:bh 16 l=none):cL l=none:=by unfold cL;rw[h]
theorem F0 {l l1:List UInt8}{n:Nat}(h:bh 16 l=some (n,l1))(h2:dG (kz 1000000000).f n none l1=none):cL l=none:=by unfold cL;rw[h];simp only;rw[h2]
theorem Gr {l l1 l2:List UInt8}{n:Nat}{vec:List Int}(h:bh 16 l=some (n,l1))(h2:dG (kz 1000000000).f n none l1=some (vec,l2))(h3:bh 9223372036854775807 l2=none):cL l=none:=by unfold cL;rw[h];simp only;rw[h2];simp only;rw[h3]
theorem pq {l l1 l2 l3:List UInt8}{n k:Nat}{vec:List Int}(h:bh 16 l=some (n,l1))(h2:dG (kz 1000000000).f n none l1=some (vec,l2))(h3:bh 9223372036854775807 l2=some (k,l3))(h4:dG (fv vec) k none l3=none):cL l=none:=by unfold cL;rw[h];simp only;rw[h2];simp only;rw[h3];simp only;rw[h4]
theorem Gm {l l1 l2 l3 r:List UInt8}{n k:Nat}{vec:List Int}{cl:List aL}(h:bh 16 l=some (n,l1))(h2:dG (kz 1000000000).f n none l1=some (vec,l2))(h3:bh 9223372036854775807 l2=some (k,l3))(h4:dG (fv vec) k none l3=some (cl,r)):cL l=some (⟨vec,cl⟩,r):=by unfold cL;rw[h];simp only;rw[h2];simp only;rw[h3];simp only;rw[h4]
theorem vA {vec:List Int}(hv:∀v∈vec,0≤v∧v≤1000000000){k:Nat}{l:List UInt8}(h:l.length<k * 3):dG (fv vec) k none l=none:=by
 cases e:dG (fv vec) k none l with
 | none=>rfl
 | some q =>
   obtain⟨xs,r⟩:=q;have:=EG (tE vec fun r=>(dv hv r).1) (k:=3) (p:=none) (fun q hq=>by cases hq) (fun p x=>xe vec p x) e;omega
theorem B8 {vec:List Int}{p:Option aL}{l:List UInt8}(h:bh 16 l=none):fv vec p l=none:=by unfold fv;rw[h]
theorem Cx {vec:List Int}{p:Option aL}{l l1:List UInt8}{st:Nat}(h:bh 16 l=some (st,l1))(h1:16≤bV p+st):fv vec p l=none:=by unfold fv;rw[h];simp only;rw[if_pos h1]
theorem Cc {vec:List Int}{p:Option aL}{l l1:List UInt8}{st:Nat}(h:bh 16 l=some (st,l1))(h2:bh 1000000000 l1=none):fv vec p l=none:=by
 unfold fv;rw[h];simp only
 split
 ·
  rfl
 ·
  rw[h2]
theorem Cg {vec:List Int}{p:Option aL}{l l1 l2:List UInt8}{st sk:Nat}(h:bh 16 l=some (st,l1))(h2:bh 1000000000 l1=some (sk,l2))(h3:bh 1000000000 l2=none):fv vec p l=none:=by
 unfold fv;rw[h];simp only
 split
 ·
  rfl
 ·
  rw[h2];simp only;rw[h3]
theorem Cn {vec:List Int}{p:Option aL}{l l1 l2 l3:List UInt8}{st sk mo:Nat}(h:bh 16 l=some (st,l1))(h2:bh 1000000000 l1=some (sk,l2))(h3:bh 1000000000 l2=some (mo,l3))(h4:1000000000<bt vec p (bV p+st)+sk+mo):fv vec p l=none:=by
 unfold fv;rw[h];simp only
 split
 ·
  rfl
 ·
  rw[h2];simp only;rw[h3];simp only;rw[if_pos h4]
theorem CG {vec:List Int}{p:Option aL}{l l1 l2 l3:List UInt8}{st sk mo:Nat}(h:bh 16 l=some (st,l1))(h1:¬16≤bV p+st)(h2:bh 1000000000 l1=some (sk,l2))(h3:bh 1000000000 l2=some (mo,l3))(h4:¬1000000000<bt vec p (bV p+st)+sk+mo):fv vec p l=some (⟨bV p+st,bt vec p (bV p+st)+sk,bt vec p (bV p+st)+sk+mo⟩,l3):=by
 unfold fv;rw[h];simp only;rw[if_neg h1,h2];simp only;rw[h3];simp only;rw[if_neg h4]
theorem DB {vec:List Int}(hv:∀v∈vec,0≤v∧v≤1000000000){ys:List aL}(hy:∀s∈ys,0≤s.rep∧s.rep<16∧0≤s.hi∧s.hi≤1000000000)(rep:Int):0≤bt vec ys.getLast? rep∧bt vec ys.getLast? rep≤1000000002:=by
 unfold bt;have:=dv hv rep.toNat;cases e:ys.getLast? with
 | none=>simp only;omega
 | some q=>have:=hy q (List.mem_of_getLast? e);simp only;split<;>omega
theorem B7 {ys:List aL}(hy:∀s∈ys,0≤s.rep∧s.rep<16∧0≤s.hi∧s.hi≤1000000000):0≤bV ys.getLast?∧bV ys.getLast? < 16:=by
 unfold bV;cases e:ys.getLast? with
 | none=>simp
 | some q=>have:=hy q (List.mem_of_getLast? e);simp only;omega
theorem pG (W w:World)(L:List As)(r:Nat)(A:Option Addr)(c:Nat)(bs:List UInt8)(at_:Nat)(O:Sat W w (hZ r A c bs at_ true 0::L))(hat:at_≤bs.length)(hb:bs.length≤1000000000000)(hR:∀w,Sat W w L→Rd w 1 (.slice A bs.length c) bs.length (bs.map aj)):Calls Tryz.prog 383 #[.pointer (some ⟨r,0,none⟩)] w fun e w'=>(∃(q:PL) (at':Nat),cL (bs.drop at_)=some (q.d,bs.drop at')∧at'≤bs.length∧q.d.ab.length≤bs.length∧e=.returned (.agg #[.slice q.va q.d.vec.length q.vc,.slice q.ca q.d.ab.length q.cc])∧Sat W w' (hZ r A c bs (at':Int) true 0::cq 3 q.va q.vc q.d.vec::bp 219 q.ca q.cc q.d.ab::L))∨(cL (bs.drop at_)=none∧xK (.iface 271 (.agg #[.pointer (some ⟨r,0,none⟩)])) e∧∃at' er:Int,er≠0∧Sat W w' (hZ r A c bs at' true er::L)):=by
 refine bS Tryz.func383 [0] ?_;refine uC 2 ?_;refine uN cY O ?_;clear O;intro b2 w O;refine uO 4 ?_;refine uN cY O ?_;clear O;intro b3 w O;refine uO 6 ?_;intro a I;refine eu I rfl gY rfl (cb _ _ _ r A c bs at_ 16 (O.p 2) (by omega) (by omega) (fun w s=>hR w s.drop.drop)) ?_;rintro e w (⟨v8,at8,hn8,ha8,hv8,hw8,rfl,hS'⟩ | ⟨hn8,⟨older,rfl,ho⟩,at',er,hne,hS'⟩)
 ·clear O;have O:=hS';clear hS';refine .inl ⟨_,rfl,?_⟩;clear I a;refine uO 4 ?_;intro a I;refine wp_loop_ghost (fun (mm:Nat) a w=>∃(i:Nat) (xs:List Int) (Av:Option Addr) (cv at1:Nat),Ag a 59 [(0,.pointer (some ⟨r,0,none⟩)),(2,.pointer (some ⟨b2,0,none⟩)),(3,.pointer (some ⟨b3,0,none⟩)),(8,.int .i64 ((v8:Nat):Int)),(9,.int .i64 ((i:Nat):Int))]∧Sat W w (hZ r A c bs (at1:Int) true 0::a6 b3 (.cells #[.slice Av xs.length cv,.slice none 0 0] 63)::cq 3 Av cv xs::a6 b2 (.cells #[.slice none 0 0,.slice none 0 0] 63)::L)∧(i≤v8)∧(xs.length=i)∧(at1≤bs.length)∧(dG (kz 1000000000).f v8 none (bs.drop at8)=(dG (kz 1000000000).f (v8-i) xs.getLast? (bs.drop at1)).map fun q=>(xs++q.1,q.2))∧(∀v∈xs,0≤v∧v≤1000000000)∧mm=v8-i) v8 ?_ ?_
  ·replace I:=I.kp [0,2,3,8,9] rfl;exact⟨0,[],none,0,at8,I,(((((O.ba 3 1).p 3).p 1).p 3).p 3),(by omega),(by rfl),(by omega),(by exact jz),(by intro v hv;cases hv),by omega⟩
  intro m a w hI;clear O I;obtain⟨i,xs,Av,cv,at1,I,O,hi,hxl,hat1,hq,hx0,rfl⟩:=hI;refine rC 2 I ?_;clear I a;refine aJ 0 0 (aq rfl rfl) ?_ ?_
  ·intro h10;refine uO 8 ?_;intro a I;refine jo [5,7] (lB W (a6 b3 (.cells #[.slice Av xs.length cv,.slice none 0 0] 63)::cq 3 Av cv xs::a6 b2 (.cells #[.slice none 0 0,.slice none 0 0] 63)::L)) (by kernel_rfl) ?_;replace O:=O.drew;refine P1 0 [] I rfl (fun w=>(aa (I.ev rfl) cD)) ?_;clear I a;refine cZ 1 [2] rfl (by exact⟨[_],O⟩) (fun w hT=>have O:=hT.sat;(ld rfl)) ?_;intro a I;refine aE 3 (by kernel_rfl) ?_;refine GK I rfl rfl gY rfl (cb _ _ _ r A c bs at1 1000000000 O (by omega) (by omega) (fun w s=>hR w s.drop.drop.drop)) ?_;rintro e w (⟨v14,at14,hn14,ha14,hv14,hw14,rfl,hS'⟩ | ⟨hn14,⟨older,rfl,ho⟩,at',er,hne,hS'⟩)
   rotate_left 1
   ·refine .inr ⟨_,rfl,?_⟩;refine rE 5 I ?_;clear I a;intro a I;refine dj I ?_;clear O;have O:=hS';clear hS';refine .inr ⟨F0 hn8 (c6 (n:=v8-(i+1)) (by rw[hq,show v8-i=(v8-(i+1))+1 from by omega]) (xp hn14)),⟨older,rfl,ho⟩,at',er,hne,(((O.p 1).drop.p 1).drop.p 1).drop⟩
   clear O;have O:=hS';clear hS';refine .inl ⟨_,rfl,?_⟩;clear I a;intro a I;refine⟨.inr fun _=>(by exact⟨[_],O⟩),?_⟩;refine aE 4 (by kernel_rfl) ?_;refine eL I rfl rfl rfl ax iU rfl rfl rfl (by simp[Value.oneCell']) O ?_;clear I a O;intro A15 w O;intro a I;refine⟨.inr fun _=>(by exact⟨[_,_],O⟩),?_⟩;refine aE 5 (by kernel_rfl) ?_
   first | refine eA I rfl rfl rfl rfl ax iU rfl O (by exact O.rd.src ax (by simp[Value.oneCell'])) (by omega) (by omega) ?_ | refine eA I rfl rfl rfl rfl ax iU rfl (O.p 1) (by exact O.rd.src ax (by simp[Value.oneCell'])) (by omega) (by omega) ?_ | refine eA I rfl rfl rfl rfl ax iU rfl (O.p 2) (by exact O.rd.src ax (by simp[Value.oneCell'])) (by omega) (by omega) ?_ | refine eA I rfl rfl rfl rfl ax iU rfl (O.p 3) (by exact O.rd.src ax (by simp[Value.oneCell'])) (by omega) (by omega) ?_ | refine eA I rfl rfl rfl rfl ax iU rfl (O.p 4) (by first | exact O.rd.src ax (by simp[Value.oneCell']) | exact (O.p 1).rd.src ax (by simp[Value.oneCell']) | exact (O.p 2).rd.src ax (by simp[Value.oneCell']) | exact (O.p 3).rd.src ax (by simp[Value.oneCell']) | exact (O.p 4).rd.src ax (by simp[Value.oneCell']) | exact (O.p 5).rd.src ax (by simp[Value.oneCell']) | exact (O.p 6).rd.src ax (by simp[Value.oneCell'])) (by omega) (by omega) ?_ | refine eA I rfl rfl rfl rfl ax iU rfl (O.p 5) (by first | exact O.rd.src ax (by simp[Value.oneCell']) | exact (O.p 1).rd.src ax (by simp[Value.oneCell']) | exact (O.p 2).rd.src ax (by simp[Value.oneCell']) | exact (O.p 3).rd.src ax (by simp[Value.oneCell']) | exact (O.p 4).rd.src ax (by simp[Value.oneCell']) | exact (O.p 5).rd.src ax (by simp[Value.oneCell']) | exact (O.p 6).rd.src ax (by simp[Value.oneCell'])) (by omega) (by omega) ?_ | refine eA I rfl rfl rfl rfl ax iU rfl (O.p 6) (by first | exact O.rd.src ax (by simp[Value.oneCell']) | exact (O.p 1).rd.src ax (by simp[Value.oneCell']) | exact (O.p 2).rd.src ax (by simp[Value.oneCell']) | exact (O.p 3).rd.src ax (by simp[Value.oneCell']) | exact (O.p 4).rd.src ax (by simp[Value.oneCell']) | exact (O.p 5).rd.src ax (by simp[Value.oneCell']) | exact (O.p 6).rd.src ax (by simp[Value.oneCell'])) (by omega) (by omega) ?_
   clear I a O;intro A16 c16 w hc16 O;intro a I;refine⟨.inl rfl,?_⟩;refine P1 6 [] I rfl (fun w=>(aa (I.ev rfl) cD)) ?_;clear I a;intro a I;refine aE 7 (by kernel_rfl) ?_;refine HP (cs':=[_,_]) I rfl rfl rfl gU fK rfl (O.p 3) rfl rfl ?_;clear O;intro w O;refine⟨.inl rfl,?_⟩;refine ah (by kernel_rfl) ?_ _;refine rE 3 I ?_;clear I a;refine u1 2 (ad rfl rfl) ?_;intro a I;replace I:=I.kp [0,2,3,8,9] rfl;rw[show v8-i=(v8-(i+1))+1 from (by omega)]at hq;have hq2:=iJ hq (wH hn14);rw[←bH xs (v14:Int)]at hq2;have el:xs.length+1=(xs++[(v14:Int)]).length:=by simp
   have hS2:=fQ ((((O.p 4).p 4).p 2).p 3) el (cs':=(xs++[(v14:Int)]).map (Value.int .i64)) (by simp);rw[el]at hS2;refine⟨v8-(i+1),by omega,i+1,xs++[(v14:Int)],A16,c16,at14,I,(((((hS2.p 3).p 1).p 2).p 3).p 4).drop,by omega,by simp;omega,ha14,hq2,?_,rfl⟩;intro z hz;rcases List.mem_append.1 hz with hz | hz
   ·exact hx0 z hz
   ·simp at hz;subst hz;omega
  ·intro h10;obtain rfl:i=v8:=by omega
   intro a I;rw[Nat.sub_self]at hq;have hvec:=rk hq;refine rO 18 I ?_;clear I a;intro a I;refine eu I rfl y8 rfl (hJ _ _ _ r A c bs at1 3 O (by omega) (by omega) (fun w s=>hR w s.drop.drop.drop) (by decide) (by decide)) ?_;rintro e w (⟨v20,at20,hn20,ha20,hk20,rfl,hS'⟩ | ⟨hn20,⟨older,rfl,ho⟩,at',er,hne,hS'⟩)
   ·clear O;have O:=hS';clear hS';rw[show (3:Int).toNat=3 from rfl]at hk20;refine .inl ⟨_,rfl,?_⟩;clear I a;refine uO 3 ?_;intro a I;replace I:=I.kp [0,2,3,4,20,21] rfl;refine rC 1 I ?_;clear I a;intro a I
    refine wp_loop_ghost (fun (mm:Nat) a w=>∃(j:Nat) (ys:List aL) (Ac:Option Addr) (cc at2:Nat),Ag a 59 [(0,.pointer (some ⟨r,0,none⟩)),(2,.pointer (some ⟨b2,0,none⟩)),(3,.pointer (some ⟨b3,0,none⟩)),(4,.int .i64 ((bV ys.getLast?))),(20,.int .i64 ((v20:Nat):Int)),(21,.int .i64 ((j:Nat):Int))]∧Sat W w (hZ r A c bs (at2:Int) true 0::a6 b3 (.cells #[.slice Av xs.length cv,.slice Ac ys.length cc] 63)::cq 3 Av cv xs::bp 219 Ac cc ys::a6 b2 (.cells #[.slice none 0 0,.slice none 0 0] 63)::L)∧(j≤v20)∧(ys.length=j)∧(at2≤bs.length)∧(dG (fv xs) v20 none (bs.drop at20)=(dG (fv xs) (v20-j) ys.getLast? (bs.drop at2)).map fun q=>(ys++q.1,q.2))∧(∀s∈ys,0≤s.rep∧s.rep<16∧0≤s.hi∧s.hi≤1000000000)∧mm=v20-j) v20 ?_ ?_
    ·replace I:=I.kp [0,2,3,4,20,21] rfl;exact⟨0,[],none,0,at20,I,((((((O.ba 219 3).p 4).p 1).p 4).p 4).p 4),(by omega),(by rfl),(by omega),(by exact jz),(by intro v hv;cases hv),by omega⟩
    intro m a w hI;clear O I;obtain⟨j,ys,Ac,cc,at2,I,O,hj,hyl,hat2,hq2,hy0,rfl⟩:=hI;refine rC 2 I ?_;clear I a;refine aJ 0 0 (aq rfl rfl) ?_ ?_
    ·intro h22;obtain⟨hp0,hp1⟩:=B7 hy0;refine uO 12 ?_;intro a I;refine eu I rfl gY rfl (cb _ _ _ r A c bs at2 16 O (by omega) (by omega) (fun w s=>hR w s.drop.drop.drop.drop)) ?_;rintro e w (⟨v25,at25,hn25,ha25,hv25,hw25,rfl,hS'⟩ | ⟨hn25,⟨older,rfl,ho⟩,at',er,hne,hS'⟩)
     ·clear O;have O:=hS';clear hS';refine .inl ⟨_,rfl,?_⟩;clear I a;refine u1 7 (ad rfl rfl) ?_;refine aJ 0 0 (dF rfl rfl) ?_ ?_
      ·intro h28;refine uO 5 ?_;intro a I;refine eu I rfl lO rfl (cW _ _ _ r A c bs at25 8 O (by omega) (by omega) (fun w s=>hR w s.drop.drop.drop.drop)) ?_;rintro e w ⟨⟨older,rfl,ho⟩,at',hS'⟩
       ·refine .inr ⟨_,rfl,?_⟩;refine rE 6 I ?_;clear I a;intro a I;refine dj I ?_;clear O;have O:=hS';clear hS';refine .inr ⟨pq hn8 hvec hn20 (c6 (n:=v20-(j+1)) (by rw[hq2,show v20-j=(v20-(j+1))+1 from by omega]) (Cx hn25 (by omega))),⟨older,rfl,ho⟩,at',8,by decide,((((O.p 1).drop.p 1).drop.p 1).drop.p 1).drop⟩
      ·intro h28;refine uO 7 ?_;obtain⟨hm0,hm1⟩:=DB hx0 hy0 (bV ys.getLast?+(v25:Int));refine u1 0 (aa rfl cD) ?_;refine u1 1 (ld rfl) ?_;refine u1 0 (aa rfl cd) ?_;refine u1 0 (ld rfl) ?_;refine uF rfl (yS _ Av cv xs _ Ac ys.length cc ys (O.p 2).rd (O.p 3).rd rfl (by omega) (by omega) hx0 (fun s hs=>by have:=hy0 s hs;omega) (by omega) (by omega)) ?_;rintro e w ⟨rfl,hT⟩;replace O:Sat _ _ _:=O.ag hT;clear hT;refine uO 1 ?_;intro a I;refine eu I rfl gY rfl (cb _ _ _ r A c bs at25 1000000000 O (by omega) (by omega) (fun w s=>hR w s.drop.drop.drop.drop)) ?_;rintro e w (⟨v38,at38,hn38,ha38,hv38,hw38,rfl,hS'⟩ | ⟨hn38,⟨older,rfl,ho⟩,at',er,hne,hS'⟩)
       ·clear O;have O:=hS';clear hS';refine .inl ⟨_,rfl,?_⟩;clear I a;refine u1 7 (ad rfl rfl) ?_;intro a I;refine eu I rfl gY rfl (cb _ _ _ r A c bs at38 1000000000 O (by omega) (by omega) (fun w s=>hR w s.drop.drop.drop.drop)) ?_;rintro e w (⟨v42,at42,hn42,ha42,hv42,hw42,rfl,hS'⟩ | ⟨hn42,⟨older,rfl,ho⟩,at',er,hne,hS'⟩)
        ·clear O;have O:=hS';clear hS';refine .inl ⟨_,rfl,?_⟩;clear I a;refine u1 7 (ad rfl rfl) ?_;refine aJ 0 0 (cG rfl rfl) ?_ ?_
         ·intro h45;refine uO 5 ?_;intro a I;refine eu I rfl lO rfl (cW _ _ _ r A c bs at42 8 O (by omega) (by omega) (fun w s=>hR w s.drop.drop.drop.drop)) ?_;rintro e w ⟨⟨older,rfl,ho⟩,at',hS'⟩
          ·refine .inr ⟨_,rfl,?_⟩;refine rE 6 I ?_;clear I a;intro a I;refine dj I ?_;clear O;have O:=hS';clear hS';refine .inr ⟨pq hn8 hvec hn20 (c6 (n:=v20-(j+1)) (by rw[hq2,show v20-j=(v20-(j+1))+1 from by omega]) (Cn hn25 hn38 hn42 (by omega))),⟨older,rfl,ho⟩,at',8,by decide,((((O.p 1).drop.p 1).drop.p 1).drop.p 1).drop⟩
         ·intro h45;refine uO 6 ?_;refine u1 0 (aa rfl cd) ?_;refine u1 3 (ld rfl) ?_;intro a I;refine o1 0 I (ar I rfl iw) ?_;clear I a;intro a I;refine gF (vss:=[[_,_,_]]) I rfl rfl dt nT rfl rfl rfl (by simp) rfl O ?_;clear I a O;intro A54 w O;intro a I;refine dq I rfl rfl rfl dt nT rfl (O.p 4) (O.rd.src dt (by simp[Value.oneCell'])) (by omega) (by omega) ?_;clear I a O;intro A55 c55 w hc55 O;refine u1 0 (aa rfl cd) ?_;intro a I;refine fS (cs':=[_,_]) I rfl rfl we C4 rfl (O.p 3) rfl rfl ?_;clear O;intro w O;refine rO 4 I ?_;clear I a;refine u1 2 (ad rfl rfl) ?_;intro a I;replace I:=I.kp [0,2,3,4,20,21] rfl;rw[show v20-j=(v20-(j+1))+1 from (by omega)]at hq2;have hq3:=iJ hq2 (CG hn25 (by omega) hn38 hn42 (by omega))
          rw[←bH ys (⟨bV ys.getLast?+(v25:Int),bt xs ys.getLast? (bV ys.getLast?+(v25:Int))+(v38:Int),bt xs ys.getLast? (bV ys.getLast?+(v25:Int))+(v38:Int)+(v42:Int)⟩:aL)]at hq3;have el:ys.length+1=(ys++[(⟨bV ys.getLast?+(v25:Int),bt xs ys.getLast? (bV ys.getLast?+(v25:Int))+(v38:Int),bt xs ys.getLast? (bV ys.getLast?+(v25:Int))+(v38:Int)+(v42:Int)⟩:aL)]).length:=by simp
          have hS2:=fQ (((((O.p 5).p 5).p 5).p 3).p 4) el (cs':=(ys++[(⟨bV ys.getLast?+(v25:Int),bt xs ys.getLast? (bV ys.getLast?+(v25:Int))+(v38:Int),bt xs ys.getLast? (bV ys.getLast?+(v25:Int))+(v38:Int)+(v42:Int)⟩:aL)]).flatMap gH) (by rw[List.flatMap_append];rfl);rw[el]at hS2;rw[show bV ys.getLast?+(v25:Int)=bV (ys++[(⟨bV ys.getLast?+(v25:Int),bt xs ys.getLast? (bV ys.getLast?+(v25:Int))+(v38:Int),bt xs ys.getLast? (bV ys.getLast?+(v25:Int))+(v38:Int)+(v42:Int)⟩:aL)]).getLast? from by rw[bH];rfl]at I;refine⟨v20-(j+1),by omega,j+1,ys++[(⟨bV ys.getLast?+(v25:Int),bt xs ys.getLast? (bV ys.getLast?+(v25:Int))+(v38:Int),bt xs ys.getLast? (bV ys.getLast?+(v25:Int))+(v38:Int)+(v42:Int)⟩:aL)],A55,c55,at42,I,((((((hS2.p 4).p 1).p 4).p 3).p 4).p 5).drop,by omega,by simp;omega,ha42,hq3,?_,rfl⟩;intro z hz
          rcases List.mem_append.1 hz with hz | hz
          ·exact hy0 z hz
          ·simp only[List.mem_singleton]at hz;subst hz;exact⟨by dsimp only;omega,by dsimp only;omega,by dsimp only;omega,by dsimp only;omega⟩
        ·refine .inr ⟨_,rfl,?_⟩;refine rE 6 I ?_;clear I a;intro a I;refine dj I ?_;clear O;have O:=hS';clear hS';refine .inr ⟨pq hn8 hvec hn20 (c6 (n:=v20-(j+1)) (by rw[hq2,show v20-j=(v20-(j+1))+1 from by omega]) (Cg hn25 hn38 hn42)),⟨older,rfl,ho⟩,at',er,hne,((((O.p 1).drop.p 1).drop.p 1).drop.p 1).drop⟩
       ·refine .inr ⟨_,rfl,?_⟩;refine rE 6 I ?_;clear I a;intro a I;refine dj I ?_;clear O;have O:=hS';clear hS';refine .inr ⟨pq hn8 hvec hn20 (c6 (n:=v20-(j+1)) (by rw[hq2,show v20-j=(v20-(j+1))+1 from by omega]) (Cc hn25 hn38)),⟨older,rfl,ho⟩,at',er,hne,((((O.p 1).drop.p 1).drop.p 1).drop.p 1).drop⟩
     ·refine .inr ⟨_,rfl,?_⟩;refine rE 6 I ?_;clear I a;intro a I;refine dj I ?_;clear O;have O:=hS';clear hS';refine .inr ⟨pq hn8 hvec hn20 (c6 (n:=v20-(j+1)) (by rw[hq2,show v20-j=(v20-(j+1))+1 from by omega]) (B8 hn25)),⟨older,rfl,ho⟩,at',er,hne,((((O.p 1).drop.p 1).drop.p 1).drop.p 1).drop⟩
    ·intro h22;obtain rfl:j=v20:=by omega
     intro a I;rw[Nat.sub_self]at hq2;have hcl:=rk hq2;refine rO 11 I ?_;clear I a;refine u1 0 (lS (cs:=[_,_]) rfl) ?_;refine uW (vs:=[_,_]) (cs':=[_,_]) rfl rfl aO (O.p 4) ?_;clear O;intro w O;refine uO 3 ?_;intro a I;refine fY I rfl (br (cs:=[_,_]) I rfl cS aO (by exact O.ao (xs:=[_,_]) rfl)) ?_;refine .inl ⟨⟨Av,cv,Ac,cc,⟨xs,ys⟩⟩,at2,Gm hn8 hvec hn20 hcl,hat2,by show ys.length≤_;omega,rfl,?_⟩;exact (O.drop.p 1).drop
   ·refine .inr ⟨_,rfl,?_⟩;refine rE 2 I ?_;clear I a;intro a I;refine dj I ?_;clear O;have O:=hS';clear hS';refine .inr ⟨?_,⟨older,rfl,ho⟩,at',er,hne,(((O.p 1).drop.p 1).drop.p 1).drop⟩;rcases hn20 with h | ⟨k,rr,h,h2⟩
    ·exact Gr hn8 hvec h
    ·exact pq hn8 hvec h (vA hx0 h2)
 ·refine .inr ⟨_,rfl,?_⟩;refine rE 2 I ?_;clear I a;intro a I;refine dj I ?_;clear O;have O:=hS';clear hS';exact .inr ⟨CN hn8,⟨older,rfl,ho⟩,at',er,hne,((O.p 1).drop.p 1).drop⟩
def fz (l:List UInt8):Option (List aS×List UInt8):=match bh 9223372036854775807 l with
 | none=>none
 | some (k,l1)=>dG k9 k none l1
def fy (l:List UInt8):Option (List bK×List UInt8):=match bh 9223372036854775807 l with
 | none=>none
 | some (k,l1)=>dG sa k none l1
theorem r4 {l r:List UInt8}{xs:List aS}:fz l=some (xs,r)↔l=fb xs++r∧j7 qq none xs∧xs.length≤9223372036854775807:=by
 unfold fz fb;constructor
 ·
  intro h
  split at h
  ·
   cases h
  ·
   rename_i k l1 e1;obtain⟨rfl,h1,h2⟩:=aW.1 e1;obtain⟨rfl,h3,rfl⟩:=(yn.seq k none (fun q hq=>by cases hq) l1 xs r).1 h;exact⟨by rw[List.append_assoc];rfl,h3,h2⟩
 ·
  rintro ⟨rfl,h1,h2⟩;rw[List.append_assoc,aW.2 ⟨rfl,by omega,h2⟩];exact (yn.seq _ none (fun q hq=>by cases hq) _ xs r).2 ⟨rfl,h1,rfl⟩
theorem mB {l r:List UInt8}{xs:List bK}:fy l=some (xs,r)↔l=dO xs++r∧j7 EK none xs∧xs.length≤9223372036854775807:=by
 unfold fy dO;constructor
 ·
  intro h
  split at h
  ·
   cases h
  ·
   rename_i k l1 e1;obtain⟨rfl,h1,h2⟩:=aW.1 e1;obtain⟨rfl,h3,rfl⟩:=(xS.seq k none trivial l1 xs r).1 h;exact⟨by rw[List.append_assoc];rfl,h3,h2⟩
 ·
  rintro ⟨rfl,h1,h2⟩;rw[List.append_assoc,aW.2 ⟨rfl,by omega,h2⟩];exact (xS.seq _ none trivial _ xs r).2 ⟨rfl,h1,rfl⟩
theorem Gw {s:ByteArray}(h:lE s=true):1≤s.data.toList.length:=by
 unfold lE Ck pW at h
 split at h
 ·
  simp at h
 ·
  omega
theorem wO {xs:List aS}(h:bP xs=true):xs.length * 5≤(seqB oe none xs).length:=by
 have:∀(l:List aS) (p:Option aS),(∀e∈l,fM e=true)→l.length * 5≤(seqB oe p l).length:=by
  intro l
  induction l with
  | nil=>intro p _;simp
  | cons x l ih =>
    intro p hp;have h1:=ih (some x) fun e he=>hp e (by simp[he])
    have h2:=hp x (by simp);unfold fM at h2;simp only[Bool.and_eq_true]at h2;have h3:=Gw h2.1.1.2;have h4:=cm (x.rep-a7 p).toNat;have h5:=cm (x.num-dw p x.rep).toNat;have h6:=cm x.cM.data.toList.length;have h7:=cm (x.qy-1).toNat;have h8:5≤(oe p x).length:=by unfold oe;simp only[List.length_append];omega
    rw[seqB,List.length_append,List.length_cons,Nat.add_mul];omega
 refine this xs none fun e he=>?_;obtain⟨i,hi⟩:=List.mem_iff_getElem?.1 he;have:=lV h i e hi;unfold eY at this;rw[Bool.and_eq_true]at this;exact this.1
theorem qn (p:aI):2+p.vec.length+3 * p.ab.length≤(eH p).length:=by
 unfold eH;have h1:=cm p.vec.length;have h2:=cm p.ab.length;have h3:=j2 (g:=(kz 1000000000).g) (k:=1) (fun _ x=>cm x.toNat) p.vec none;have h4:=j2 (g:=kv p.vec) (k:=3) (fun q x=>xe _ q x) p.ab none;simp only[List.length_append];omega
theorem Fs {r:bK}(h:eZ r=true)(p:Option bK):4≤(mT p r).length:=by
 have h1:=qn r.bx;have h2:=cm r.cM.data.toList.length
 have h3:1≤r.bx.vec.length+r.bx.ab.length:=by
  rcases Nat.eq_zero_or_pos (r.bx.vec.length+r.bx.ab.length) with h0 | h0
  ·
   have e1:r.bx.vec=[]:=List.eq_nil_of_length_eq_zero (by omega);have e2:r.bx.ab=[]:=List.eq_nil_of_length_eq_zero (by omega);have e3:r.bx=⟨[],[]⟩:=v7 e1 e2;unfold eZ at h;rw[e3,show eO ⟨[],[]⟩=true from by decide]at h;simp at h
  ·
   exact h0
 unfold mT;simp only[List.length_append];omega
theorem DF {xs:List bK}(h:bZ xs=true):xs.length * 4≤(seqB mT none xs).length:=by
 have:∀(l:List bK) (p:Option bK),(∀e∈l,eZ e=true)→l.length * 4≤(seqB mT p l).length:=by
  intro l
  induction l with
  | nil=>intro p _;simp
  | cons x l ih =>
    intro p hp;have h1:=ih (some x) fun e he=>hp e (by simp[he])
    have h2:=Fs (hp x (by simp)) p;rw[seqB,List.length_append,List.length_cons,Nat.add_mul];omega
 exact this xs none (fX h)
theorem qL (xs:List bK):dm (xs.map bK.bx)≤(dO xs).length:=by
 have:∀(l:List bK) (p:Option bK),dm (l.map bK.bx)≤(seqB mT p l).length:=by
  intro l
  induction l with
  | nil=>intro p;simp[dm]
  | cons x l ih =>
    intro p;have h1:=ih (some x);have h2:=qn x.bx;have h3:(eH x.bx).length≤(mT p x).length:=by unfold mT;simp only[List.length_append];omega
    have h6:dm ((x::l).map bK.bx)=x.bx.ab.length+1+dm (l.map bK.bx):=by unfold dm;simp
    rw[seqB,List.length_append,h6];omega
 unfold dO;rw[List.length_append];have:=this xs none;omega
theorem CM {l:List UInt8}(h:bh 9223372036854775807 l=none):fz l=none:=by unfold fz;rw[h]
theorem gu {l l1:List UInt8}{k:Nat}{o:Option (List aS×List UInt8)}(h:bh 9223372036854775807 l=some (k,l1))(h2:dG k9 k none l1=o):fz l=o:=by unfold fz;rw[h];exact h2
theorem uj {l l1:List UInt8}{k:Nat}(h:bh 9223372036854775807 l=some (k,l1))(h2:l1.length<k * 5):∀xs r,fz l=some (xs,r)→bP xs=false:=fun xs r hx=>by
 rw[gu h rfl]at hx;obtain⟨rfl,_,rfl⟩:=(yn.seq k none (fun q hq=>by cases hq) l1 xs r).1 hx;rw[Bool.eq_false_iff];intro hb;have h3:xs.length * 5≤(seqB yn.g none xs).length:=wO hb;rw[List.length_append]at h2;omega
theorem Cr {l:List UInt8}(h:bh 9223372036854775807 l=none):fy l=none:=by unfold fy;rw[h]
theorem rn {l l1:List UInt8}{k:Nat}{o:Option (List bK×List UInt8)}(h:bh 9223372036854775807 l=some (k,l1))(h2:dG sa k none l1=o):fy l=o:=by unfold fy;rw[h];exact h2
theorem uU {l l1:List UInt8}{k:Nat}(h:bh 9223372036854775807 l=some (k,l1))(h2:l1.length<k * 4):∀xs r,fy l=some (xs,r)→bZ xs=false:=fun xs r hx=>by
 rw[rn h rfl]at hx;obtain⟨rfl,_,rfl⟩:=(xS.seq k none trivial l1 xs r).1 hx;rw[Bool.eq_false_iff];intro hb;have h3:xs.length * 4≤(seqB xS.g none xs).length:=DF hb;rw[List.length_append]at h2;omega
theorem dS {α β:Type}{o:Option (α×β)}{f:α→Bool}(h:o=none):∀xs r,o=some (xs,r)→f xs=false:=fun xs r hx=>by rw[h]at hx;cases hx
theorem Fl {p:Option aS}{l:List UInt8}(h:bh 16 l=none):k9 p l=none:=by unfold k9;rw[h]
theorem AO {p:Option aS}{l l1:List UInt8}{st:Nat}(h:bh 16 l=some (st,l1))(h2:bh 1000000000 l1=none):k9 p l=none:=by unfold k9;rw[h];simp only;rw[h2]
theorem xA {p:Option aS}{l l1 l2:List UInt8}{st sk:Nat}(h:bh 16 l=some (st,l1))(h2:bh 1000000000 l1=some (sk,l2))(h3:16≤a7 p+st∨1000000000<dw p (a7 p+st)+sk):k9 p l=none:=by unfold k9;rw[h];simp only;rw[h2];simp only;rw[if_pos h3]
theorem A6 {p:Option aS}{l l1 l2:List UInt8}{st sk:Nat}(h:bh 16 l=some (st,l1))(h2:bh 1000000000 l1=some (sk,l2))(h4:cy 24 l2=none):k9 p l=none:=by
 unfold k9;rw[h];simp only;rw[h2];simp only
 split
 ·
  rfl
 ·
  rw[h4]
theorem BD {p:Option aS}{l l1 l2 l3 t:List UInt8}{st sk:Nat}(h:bh 16 l=some (st,l1))(h2:bh 1000000000 l1=some (sk,l2))(h4:cy 24 l2=some (t,l3))(h5:bh 1000000 l3=none):k9 p l=none:=by
 unfold k9;rw[h];simp only;rw[h2];simp only
 split
 ·
  rfl
 ·
  rw[h4];simp only;rw[h5]
theorem BF {p:Option aS}{l l1 l2 l3 l4 t:List UInt8}{st sk q:Nat}(h:bh 16 l=some (st,l1))(h2:bh 1000000000 l1=some (sk,l2))(h3:¬(16≤a7 p+st∨1000000000<dw p (a7 p+st)+sk))(h4:cy 24 l2=some (t,l3))(h5:bh 1000000 l3=some (q,l4)):k9 p l=some (⟨a7 p+st,dw p (a7 p+st)+sk,str t,q+1⟩,l4):=by
 unfold k9;rw[h];simp only;rw[h2];simp only;rw[if_neg h3,h4];simp only;rw[h5]
theorem yB {p:Option aS}{st:Nat}(h:0<st):dw p (a7 p+st)=1:=rW (by omega)
theorem Bf {p:Option aS}{st:Nat}(h:¬(0:Int)<(st:Int)):dw p (a7 p+st)=mn p:=ql (by omega)
theorem zz {xs:List aS}(h:∀e∈xs,0≤e.rep∧e.rep<16∧1≤e.num∧e.num≤1000000000):0≤a7 xs.getLast?∧a7 xs.getLast? < 16∧1≤mn xs.getLast?∧mn xs.getLast?≤1000000001:=by
 unfold a7 mn;cases e:xs.getLast? with
 | none=>simp
 | some q=>have:=h q (List.mem_of_getLast? e);simp only;omega
theorem EY {p:Option bK}{l:List UInt8}(h:cy 24 l=none):sa p l=none:=by unfold sa;rw[h]
theorem EH {p:Option bK}{l l1 t:List UInt8}(h:cy 24 l=some (t,l1))(h2:cL l1=none):sa p l=none:=by unfold sa;rw[h];simp only;rw[h2]
theorem Bl {p:Option bK}{l l1 l2 t:List UInt8}{q:aI}(h:cy 24 l=some (t,l1))(h2:cL l1=some (q,l2)):sa p l=some (⟨str t,q⟩,l2):=by unfold sa;rw[h];simp only;rw[h2]
theorem sF (W w:World)(L:List As)(r:Nat)(A:Option Addr)(c:Nat)(bs:List UInt8)(at_:Nat)(O:Sat W w (hZ r A c bs at_ true 0::L))(hat:at_≤bs.length)(hb:bs.length≤1000000000000)(hR:∀w,Sat W w L→Rd w 1 (.slice A bs.length c) bs.length (bs.map aj)):Calls Tryz.prog 381 #[.pointer (some ⟨r,0,none⟩)] w fun e w'=>(∃(Ae:Option Addr) (ce:Nat) (xs:List aS) (at':Nat),fz (bs.drop at_)=some (xs,bs.drop at')∧at'≤bs.length∧xs.length * 5≤bs.length∧e=.returned (.slice Ae (xs).length ce)∧Sat W w' (hZ r A c bs (at':Int) true 0::fJ 216 Ae ce xs::L))∨((∀xs rr,fz (bs.drop at_)=some (xs,rr)→bP xs=false)∧xK (.iface 271 (.agg #[.pointer (some ⟨r,0,none⟩)])) e∧∃at' er:Int,er≠0∧Sat W w' (hZ r A c bs at' true er::L)):=by
 refine bS Tryz.func381 [0] ?_;refine uC 20 ?_;intro a I;refine eu I rfl y8 rfl (hJ _ _ _ r A c bs at_ 5 O (by omega) (by omega) hR (by decide) (by decide)) ?_;rintro e w (⟨v10,at10,hn10,ha10,hk10,rfl,hS'⟩ | ⟨hn10,⟨older,rfl,ho⟩,at',er,hne,hS'⟩)
 ·clear O;have O:=hS';clear hS';rw[show (5:Int).toNat=5 from rfl]at hk10;refine .inl ⟨_,rfl,?_⟩;clear I a;refine uO 4 ?_;intro a I;refine wp_loop_ghost (fun (mm:Nat) a w=>∃(i:Nat) (xs:List aS) (Ae:Option Addr) (ce at1:Nat),Ag a 52 [(0,.pointer (some ⟨r,0,none⟩)),(3,.slice Ae (xs).length ce),(4,.int .i64 ((a7 xs.getLast?))),(5,.int .i64 ((mn xs.getLast?))),(10,.int .i64 ((v10:Nat):Int)),(11,.int .i64 ((i:Nat):Int))]∧Sat W w (hZ r A c bs (at1:Int) true 0::fJ 216 Ae ce xs::L)∧(i≤v10)∧(xs.length=i)∧(at1≤bs.length)∧(dG k9 v10 none (bs.drop at10)=(dG k9 (v10-i) xs.getLast? (bs.drop at1)).map fun q=>(xs++q.1,q.2))∧(∀e∈xs,0≤e.rep∧e.rep<16∧1≤e.num∧e.num≤1000000000)∧mm=v10-i) v10 ?_ ?_
  ·replace I:=I.kp [0,3,4,5,10,11] rfl;exact⟨0,[],none,0,at10,I,((O.ba 216 4).p 1),(by omega),(by rfl),(by omega),(by exact jz),(by intro v hv;cases hv),by omega⟩
  intro m a w hI;clear O I;obtain⟨i,xs,Ae,ce,at1,I,O,hi,hxl,hat1,hq,hx0,rfl⟩:=hI;refine rC 2 I ?_;clear I a;refine aJ 0 0 (aq rfl rfl) ?_ ?_
  ·intro h12;obtain⟨hp0,hp1,hp2,hp3⟩:=zz hx0;refine uO 11 ?_;intro a I;refine eu I rfl gY rfl (cb _ _ _ r A c bs at1 16 O (by omega) (by omega) (fun w s=>hR w s.drop)) ?_;rintro e w (⟨v14,at14,hn14,ha14,hv14,hw14,rfl,hS'⟩ | ⟨hn14,⟨older,rfl,ho⟩,at',er,hne,hS'⟩)
   ·clear O;have O:=hS';clear hS';refine .inl ⟨_,rfl,?_⟩;clear I a;refine uO 7 ?_;refine aJ 0 0 (cG rfl rfl) ?_ ?_
    ·intro h16;have hnx:dw xs.getLast? (a7 xs.getLast?+(v14:Int))=1:=yB (by omega);refine uO 6 ?_;refine u1 9 (ad rfl rfl) ?_;intro a I;refine eu I rfl gY rfl (cb _ _ _ r A c bs at14 1000000000 O (by omega) (by omega) (fun w s=>hR w s.drop)) ?_;rintro e w (⟨v23,at23,hn23,ha23,hv23,hw23,rfl,hS'⟩ | ⟨hn23,⟨older,rfl,ho⟩,at',er,hne,hS'⟩)
     ·clear O;have O:=hS';clear hS';refine .inl ⟨_,rfl,?_⟩;clear I a;refine u1 0 (ad rfl rfl) ?_;intro a I;refine o1 0 I (ar I rfl pj) ?_;clear I a;refine uN Cl O ?_;clear O;intro b7 w O;refine uW (vs:=[_,_]) (cs':=[_,_]) rfl rfl gT O ?_;clear O;intro w O;refine uO 5 ?_;refine u1 0 (aa rfl bM) ?_;refine u1 0 (ld rfl) ?_;refine aJ 0 0 (dF rfl rfl) ?_ ?_
      ·intro h28;refine uO 10 ?_;intro a I;refine eu I rfl lO rfl (cW _ _ _ r A c bs at23 8 (O.p 1) (by omega) (by omega) (fun w s=>hR w s.drop.drop)) ?_;rintro e w ⟨⟨older,rfl,ho⟩,at',hS'⟩
       ·refine .inr ⟨_,rfl,?_⟩;refine rE 6 I ?_;clear I a;intro a I;refine dj I ?_;clear O;have O:=hS';clear hS';refine .inr ⟨dS (gu hn10 (c6 (n:=v10-(i+1)) (by rw[hq,show v10-i=(v10-(i+1))+1 from by omega]) (xA hn14 hn23 (by rw[hnx];omega)))),⟨older,rfl,ho⟩,at',8,by decide,((O.p 1).drop.p 1).drop⟩
      ·intro h28;refine uO 1 ?_;refine u1 0 (aa rfl bX) ?_;refine u1 0 (ld rfl) ?_;refine aJ 0 0 (cG rfl rfl) ?_ ?_
       ·intro h32;refine uO 6 ?_;intro a I;refine eu I rfl lO rfl (cW _ _ _ r A c bs at23 8 (O.p 1) (by omega) (by omega) (fun w s=>hR w s.drop.drop)) ?_;rintro e w ⟨⟨older,rfl,ho⟩,at',hS'⟩
        ·refine .inr ⟨_,rfl,?_⟩;refine rE 6 I ?_;clear I a;intro a I;refine dj I ?_;clear O;have O:=hS';clear hS';refine .inr ⟨dS (gu hn10 (c6 (n:=v10-(i+1)) (by rw[hq,show v10-i=(v10-(i+1))+1 from by omega]) (xA hn14 hn23 (by rw[hnx];omega)))),⟨older,rfl,ho⟩,at',8,by decide,((O.p 1).drop.p 1).drop⟩
       ·intro h32;refine uO 9 ?_;intro a I;refine eu I rfl Fk rfl (nz _ _ _ r A c bs at23 24 (O.p 1) (by omega) (by omega) (fun w s=>hR w s.drop.drop)) ?_;rintro e w (⟨s37,at37,hn37,ha37,rfl,hS'⟩ | ⟨hn37,⟨older,rfl,ho⟩,at',er,hne,hS'⟩)
        ·clear O;have O:=hS';clear hS';refine .inl ⟨_,rfl,?_⟩;clear I a;refine uO 4 ?_;intro a I;refine jo [8] (lB W (a6 b7 (.cells #[.int .i64 (a7 xs.getLast?+(v14:Int)),.int .i64 (1+(v23:Int))] 214)::fJ 216 Ae ce xs::L)) (by kernel_rfl) ?_;replace O:=O.drew;refine rX [0] I ?_;clear I a;refine cZ 1 [2,3] rfl (by exact⟨[_],O⟩) (fun w hT=>have O:=hT.sat;(lS (cs:=[_,_]) rfl)) ?_;intro a I;refine aE 4 (by kernel_rfl) ?_;refine GK I rfl rfl gY rfl (cb _ _ _ r A c bs at37 1000000 O (by omega) (by omega) (fun w s=>hR w s.drop.drop)) ?_;rintro e w (⟨v42,at42,hn42,ha42,hv42,hw42,rfl,hS'⟩ | ⟨hn42,⟨older,rfl,ho⟩,at',er,hne,hS'⟩)
         rotate_left 1
         ·refine .inr ⟨_,rfl,?_⟩;refine rE 6 I ?_;clear I a;intro a I;refine dj I ?_;clear O;have O:=hS';clear hS';refine .inr ⟨dS (gu hn10 (c6 (n:=v10-(i+1)) (by rw[hq,show v10-i=(v10-(i+1))+1 from by omega]) (BD hn14 hn23 hn37 hn42))),⟨older,rfl,ho⟩,at',er,hne,((O.p 1).drop.p 1).drop⟩
         clear O;have O:=hS';clear hS';refine .inl ⟨_,rfl,?_⟩;clear I a;intro a I;refine⟨.inr fun _=>(by exact⟨[_],O⟩),?_⟩;refine P1 5 [] I rfl (fun w=>(yb (I.ev rfl) (I.ev rfl) (by omega) (by omega))) ?_;clear I a;intro a I;refine P1 6 [] I rfl (fun w=>(ar I rfl lK)) ?_;clear I a;intro a I;refine aE 7 (by kernel_rfl) ?_;refine xP (vss:=[[_,_,_,_]]) I rfl rfl rfl bC gE rfl rfl rfl (by simp) rfl O ?_;clear I a O;intro A45 w O;intro a I;refine⟨.inr fun _=>(by exact⟨[_,_],O⟩),?_⟩;refine aE 8 (by kernel_rfl) ?_
         first | refine eA I rfl rfl rfl rfl bC gE rfl O (by exact O.rd.src bC (by simp[Value.oneCell'])) (by omega) (by omega) ?_ | refine eA I rfl rfl rfl rfl bC gE rfl (O.p 1) (by exact O.rd.src bC (by simp[Value.oneCell'])) (by omega) (by omega) ?_ | refine eA I rfl rfl rfl rfl bC gE rfl (O.p 2) (by exact O.rd.src bC (by simp[Value.oneCell'])) (by omega) (by omega) ?_ | refine eA I rfl rfl rfl rfl bC gE rfl (O.p 3) (by exact O.rd.src bC (by simp[Value.oneCell'])) (by omega) (by omega) ?_ | refine eA I rfl rfl rfl rfl bC gE rfl (O.p 4) (by first | exact O.rd.src bC (by simp[Value.oneCell']) | exact (O.p 1).rd.src bC (by simp[Value.oneCell']) | exact (O.p 2).rd.src bC (by simp[Value.oneCell']) | exact (O.p 3).rd.src bC (by simp[Value.oneCell']) | exact (O.p 4).rd.src bC (by simp[Value.oneCell']) | exact (O.p 5).rd.src bC (by simp[Value.oneCell']) | exact (O.p 6).rd.src bC (by simp[Value.oneCell'])) (by omega) (by omega) ?_ | refine eA I rfl rfl rfl rfl bC gE rfl (O.p 5) (by first | exact O.rd.src bC (by simp[Value.oneCell']) | exact (O.p 1).rd.src bC (by simp[Value.oneCell']) | exact (O.p 2).rd.src bC (by simp[Value.oneCell']) | exact (O.p 3).rd.src bC (by simp[Value.oneCell']) | exact (O.p 4).rd.src bC (by simp[Value.oneCell']) | exact (O.p 5).rd.src bC (by simp[Value.oneCell']) | exact (O.p 6).rd.src bC (by simp[Value.oneCell'])) (by omega) (by omega) ?_ | refine eA I rfl rfl rfl rfl bC gE rfl (O.p 6) (by first | exact O.rd.src bC (by simp[Value.oneCell']) | exact (O.p 1).rd.src bC (by simp[Value.oneCell']) | exact (O.p 2).rd.src bC (by simp[Value.oneCell']) | exact (O.p 3).rd.src bC (by simp[Value.oneCell']) | exact (O.p 4).rd.src bC (by simp[Value.oneCell']) | exact (O.p 5).rd.src bC (by simp[Value.oneCell']) | exact (O.p 6).rd.src bC (by simp[Value.oneCell'])) (by omega) (by omega) ?_
         clear I a O;intro A46 c46 w hc46 O;intro a I;refine⟨.inl rfl,?_⟩;refine rX [9] I ?_;clear I a;intro a I;refine ah (by kernel_rfl) ?_ _;refine rE 2 I ?_;clear I a;refine u1 0 (aa rfl bX) ?_;refine u1 0 (ld rfl) ?_;refine u1 5 (ad rfl rfl) ?_;refine u1 2 (ad rfl rfl) ?_;intro a I;replace I:=I.kp [0,3,4,5,10,11] rfl;rw[show v10-i=(v10-(i+1))+1 from (by omega)]at hq
         have he:k9 xs.getLast? (bs.drop at1)=some ((⟨a7 xs.getLast?+(v14:Int),1+(v23:Int),str s37,(v42:Int)+1⟩:aS),bs.drop at42):=by
          rw[BF hn14 hn23 (by rw[hnx];omega) hn37 hn42,hnx]
         have hq2:=iJ hq he;rw[←bH xs (⟨a7 xs.getLast?+(v14:Int),1+(v23:Int),str s37,(v42:Int)+1⟩:aS)]at hq2;have el:xs.length+1=(xs++[(⟨a7 xs.getLast?+(v14:Int),1+(v23:Int),str s37,(v42:Int)+1⟩:aS)]).length:=by simp
         have hS2:=fQ O el (cs':=(xs++[(⟨a7 xs.getLast?+(v14:Int),1+(v23:Int),str s37,(v42:Int)+1⟩:aS)]).flatMap lG) (by rw[List.flatMap_append];rfl);have ea:a7 xs.getLast?+(v14:Int)=a7 (xs++[(⟨a7 xs.getLast?+(v14:Int),1+(v23:Int),str s37,(v42:Int)+1⟩:aS)]).getLast?:=by rw[bH];rfl
         have eb:1+(v23:Int)+1=mn (xs++[(⟨a7 xs.getLast?+(v14:Int),1+(v23:Int),str s37,(v42:Int)+1⟩:aS)]).getLast?:=by rw[bH];rfl
         rw[ea,eb]at I;rw[el]at I;refine⟨v10-(i+1),by omega,i+1,xs++[(⟨a7 xs.getLast?+(v14:Int),1+(v23:Int),str s37,(v42:Int)+1⟩:aS)],A46,c46,at42,I,(((hS2.p 2).p 3).p 3).drop.drop,by omega,by simp;omega,ha42,hq2,?_,rfl⟩;intro z hz;rcases List.mem_append.1 hz with hz | hz
         ·exact hx0 z hz
         ·simp only[List.mem_singleton]at hz;subst hz;exact⟨by dsimp only;omega,by dsimp only;omega,by dsimp only;omega,by dsimp only;omega⟩
        ·refine .inr ⟨_,rfl,?_⟩;refine rE 6 I ?_;clear I a;intro a I;refine dj I ?_;clear O;have O:=hS';clear hS';refine .inr ⟨dS (gu hn10 (c6 (n:=v10-(i+1)) (by rw[hq,show v10-i=(v10-(i+1))+1 from by omega]) (A6 hn14 hn23 hn37))),⟨older,rfl,ho⟩,at',er,hne,((O.p 1).drop.p 1).drop⟩
     ·refine .inr ⟨_,rfl,?_⟩;refine rE 6 I ?_;clear I a;intro a I;refine dj I ?_;clear O;have O:=hS';clear hS';refine .inr ⟨dS (gu hn10 (c6 (n:=v10-(i+1)) (by rw[hq,show v10-i=(v10-(i+1))+1 from by omega]) (AO hn14 hn23))),⟨older,rfl,ho⟩,at',er,hne,(O.p 1).drop⟩
    ·intro h16;have hnx:dw xs.getLast? (a7 xs.getLast?+(v14:Int))=mn xs.getLast?:=Bf h16;refine uO 10 ?_;intro a I;refine eu I rfl gY rfl (cb _ _ _ r A c bs at14 1000000000 O (by omega) (by omega) (fun w s=>hR w s.drop)) ?_;rintro e w (⟨v23,at23,hn23,ha23,hv23,hw23,rfl,hS'⟩ | ⟨hn23,⟨older,rfl,ho⟩,at',er,hne,hS'⟩)
     ·clear O;have O:=hS';clear hS';refine .inl ⟨_,rfl,?_⟩;clear I a;refine u1 0 (ad rfl rfl) ?_;intro a I;refine o1 0 I (ar I rfl pj) ?_;clear I a;refine uN Cl O ?_;clear O;intro b7 w O;refine uW (vs:=[_,_]) (cs':=[_,_]) rfl rfl gT O ?_;clear O;intro w O;refine uO 5 ?_;refine u1 0 (aa rfl bM) ?_;refine u1 0 (ld rfl) ?_;refine aJ 0 0 (dF rfl rfl) ?_ ?_
      ·intro h28;intro a I;exfalso;omega
      ·intro h28;refine uO 1 ?_;refine u1 0 (aa rfl bX) ?_;refine u1 0 (ld rfl) ?_;refine aJ 0 0 (cG rfl rfl) ?_ ?_
       ·intro h32;refine uO 6 ?_;intro a I;refine eu I rfl lO rfl (cW _ _ _ r A c bs at23 8 (O.p 1) (by omega) (by omega) (fun w s=>hR w s.drop.drop)) ?_;rintro e w ⟨⟨older,rfl,ho⟩,at',hS'⟩
        ·refine .inr ⟨_,rfl,?_⟩;refine rE 6 I ?_;clear I a;intro a I;refine dj I ?_;clear O;have O:=hS';clear hS';refine .inr ⟨dS (gu hn10 (c6 (n:=v10-(i+1)) (by rw[hq,show v10-i=(v10-(i+1))+1 from by omega]) (xA hn14 hn23 (by rw[hnx];omega)))),⟨older,rfl,ho⟩,at',8,by decide,((O.p 1).drop.p 1).drop⟩
       ·intro h32;refine uO 9 ?_;intro a I;refine eu I rfl Fk rfl (nz _ _ _ r A c bs at23 24 (O.p 1) (by omega) (by omega) (fun w s=>hR w s.drop.drop)) ?_;rintro e w (⟨s37,at37,hn37,ha37,rfl,hS'⟩ | ⟨hn37,⟨older,rfl,ho⟩,at',er,hne,hS'⟩)
        ·clear O;have O:=hS';clear hS';refine .inl ⟨_,rfl,?_⟩;clear I a;refine uO 4 ?_;intro a I;refine jo [8] (lB W (a6 b7 (.cells #[.int .i64 (a7 xs.getLast?),.int .i64 (mn xs.getLast?+(v23:Int))] 214)::fJ 216 Ae ce xs::L)) (by kernel_rfl) ?_;replace O:=O.drew;refine rX [0] I ?_;clear I a;refine cZ 1 [2,3] rfl (by exact⟨[_],O⟩) (fun w hT=>have O:=hT.sat;(lS (cs:=[_,_]) rfl)) ?_;intro a I;refine aE 4 (by kernel_rfl) ?_;refine GK I rfl rfl gY rfl (cb _ _ _ r A c bs at37 1000000 O (by omega) (by omega) (fun w s=>hR w s.drop.drop)) ?_;rintro e w (⟨v42,at42,hn42,ha42,hv42,hw42,rfl,hS'⟩ | ⟨hn42,⟨older,rfl,ho⟩,at',er,hne,hS'⟩)
         rotate_left 1
         ·refine .inr ⟨_,rfl,?_⟩;refine rE 6 I ?_;clear I a;intro a I;refine dj I ?_;clear O;have O:=hS';clear hS';refine .inr ⟨dS (gu hn10 (c6 (n:=v10-(i+1)) (by rw[hq,show v10-i=(v10-(i+1))+1 from by omega]) (BD hn14 hn23 hn37 hn42))),⟨older,rfl,ho⟩,at',er,hne,((O.p 1).drop.p 1).drop⟩
         clear O;have O:=hS';clear hS';refine .inl ⟨_,rfl,?_⟩;clear I a;intro a I;refine⟨.inr fun _=>(by exact⟨[_],O⟩),?_⟩;refine P1 5 [] I rfl (fun w=>(yb (I.ev rfl) (I.ev rfl) (by omega) (by omega))) ?_;clear I a;intro a I;refine P1 6 [] I rfl (fun w=>(ar I rfl lK)) ?_;clear I a;intro a I;refine aE 7 (by kernel_rfl) ?_;refine xP (vss:=[[_,_,_,_]]) I rfl rfl rfl bC gE rfl rfl rfl (by simp) rfl O ?_;clear I a O;intro A45 w O;intro a I;refine⟨.inr fun _=>(by exact⟨[_,_],O⟩),?_⟩;refine aE 8 (by kernel_rfl) ?_
         first | refine eA I rfl rfl rfl rfl bC gE rfl O (by exact O.rd.src bC (by simp[Value.oneCell'])) (by omega) (by omega) ?_ | refine eA I rfl rfl rfl rfl bC gE rfl (O.p 1) (by exact O.rd.src bC (by simp[Value.oneCell'])) (by omega) (by omega) ?_ | refine eA I rfl rfl rfl rfl bC gE rfl (O.p 2) (by exact O.rd.src bC (by simp[Value.oneCell'])) (by omega) (by omega) ?_ | refine eA I rfl rfl rfl rfl bC gE rfl (O.p 3) (by exact O.rd.src bC (by simp[Value.oneCell'])) (by omega) (by omega) ?_ | refine eA I rfl rfl rfl rfl bC gE rfl (O.p 4) (by first | exact O.rd.src bC (by simp[Value.oneCell']) | exact (O.p 1).rd.src bC (by simp[Value.oneCell']) | exact (O.p 2).rd.src bC (by simp[Value.oneCell']) | exact (O.p 3).rd.src bC (by simp[Value.oneCell']) | exact (O.p 4).rd.src bC (by simp[Value.oneCell']) | exact (O.p 5).rd.src bC (by simp[Value.oneCell']) | exact (O.p 6).rd.src bC (by simp[Value.oneCell'])) (by omega) (by omega) ?_ | refine eA I rfl rfl rfl rfl bC gE rfl (O.p 5) (by first | exact O.rd.src bC (by simp[Value.oneCell']) | exact (O.p 1).rd.src bC (by simp[Value.oneCell']) | exact (O.p 2).rd.src bC (by simp[Value.oneCell']) | exact (O.p 3).rd.src bC (by simp[Value.oneCell']) | exact (O.p 4).rd.src bC (by simp[Value.oneCell']) | exact (O.p 5).rd.src bC (by simp[Value.oneCell']) | exact (O.p 6).rd.src bC (by simp[Value.oneCell'])) (by omega) (by omega) ?_ | refine eA I rfl rfl rfl rfl bC gE rfl (O.p 6) (by first | exact O.rd.src bC (by simp[Value.oneCell']) | exact (O.p 1).rd.src bC (by simp[Value.oneCell']) | exact (O.p 2).rd.src bC (by simp[Value.oneCell']) | exact (O.p 3).rd.src bC (by simp[Value.oneCell']) | exact (O.p 4).rd.src bC (by simp[Value.oneCell']) | exact (O.p 5).rd.src bC (by simp[Value.oneCell']) | exact (O.p 6).rd.src bC (by simp[Value.oneCell'])) (by omega) (by omega) ?_
         clear I a O;intro A46 c46 w hc46 O;intro a I;refine⟨.inl rfl,?_⟩;refine rX [9] I ?_;clear I a;intro a I;refine ah (by kernel_rfl) ?_ _;refine rE 2 I ?_;clear I a;refine u1 0 (aa rfl bX) ?_;refine u1 0 (ld rfl) ?_;refine u1 5 (ad rfl rfl) ?_;refine u1 2 (ad rfl rfl) ?_;intro a I;replace I:=I.kp [0,3,4,5,10,11] rfl;rw[show v10-i=(v10-(i+1))+1 from (by omega)]at hq
         have he:k9 xs.getLast? (bs.drop at1)=some ((⟨a7 xs.getLast?,mn xs.getLast?+(v23:Int),str s37,(v42:Int)+1⟩:aS),bs.drop at42):=by
          rw[BF hn14 hn23 (by rw[hnx];omega) hn37 hn42,hnx];rw[show a7 xs.getLast?+(v14:Int)=a7 xs.getLast? from by omega]
         have hq2:=iJ hq he;rw[←bH xs (⟨a7 xs.getLast?,mn xs.getLast?+(v23:Int),str s37,(v42:Int)+1⟩:aS)]at hq2;have el:xs.length+1=(xs++[(⟨a7 xs.getLast?,mn xs.getLast?+(v23:Int),str s37,(v42:Int)+1⟩:aS)]).length:=by simp
         have hS2:=fQ O el (cs':=(xs++[(⟨a7 xs.getLast?,mn xs.getLast?+(v23:Int),str s37,(v42:Int)+1⟩:aS)]).flatMap lG) (by rw[List.flatMap_append];rfl);have ea:a7 xs.getLast?=a7 (xs++[(⟨a7 xs.getLast?,mn xs.getLast?+(v23:Int),str s37,(v42:Int)+1⟩:aS)]).getLast?:=by rw[bH];rfl
         have eb:mn xs.getLast?+(v23:Int)+1=mn (xs++[(⟨a7 xs.getLast?,mn xs.getLast?+(v23:Int),str s37,(v42:Int)+1⟩:aS)]).getLast?:=by rw[bH];rfl
         rw[ea,eb]at I;rw[el]at I;refine⟨v10-(i+1),by omega,i+1,xs++[(⟨a7 xs.getLast?,mn xs.getLast?+(v23:Int),str s37,(v42:Int)+1⟩:aS)],A46,c46,at42,I,(((hS2.p 2).p 3).p 3).drop.drop,by omega,by simp;omega,ha42,hq2,?_,rfl⟩;intro z hz;rcases List.mem_append.1 hz with hz | hz
         ·exact hx0 z hz
         ·simp only[List.mem_singleton]at hz;subst hz;exact⟨by dsimp only;omega,by dsimp only;omega,by dsimp only;omega,by dsimp only;omega⟩
        ·refine .inr ⟨_,rfl,?_⟩;refine rE 6 I ?_;clear I a;intro a I;refine dj I ?_;clear O;have O:=hS';clear hS';refine .inr ⟨dS (gu hn10 (c6 (n:=v10-(i+1)) (by rw[hq,show v10-i=(v10-(i+1))+1 from by omega]) (A6 hn14 hn23 hn37))),⟨older,rfl,ho⟩,at',er,hne,((O.p 1).drop.p 1).drop⟩
     ·refine .inr ⟨_,rfl,?_⟩;refine rE 6 I ?_;clear I a;intro a I;refine dj I ?_;clear O;have O:=hS';clear hS';refine .inr ⟨dS (gu hn10 (c6 (n:=v10-(i+1)) (by rw[hq,show v10-i=(v10-(i+1))+1 from by omega]) (AO hn14 hn23))),⟨older,rfl,ho⟩,at',er,hne,(O.p 1).drop⟩
   ·refine .inr ⟨_,rfl,?_⟩;refine rE 6 I ?_;clear I a;intro a I;refine dj I ?_;clear O;have O:=hS';clear hS';refine .inr ⟨dS (gu hn10 (c6 (n:=v10-(i+1)) (by rw[hq,show v10-i=(v10-(i+1))+1 from by omega]) (Fl hn14))),⟨older,rfl,ho⟩,at',er,hne,(O.p 1).drop⟩
  ·intro h12;obtain rfl:i=v10:=by omega
   intro a I;rw[Nat.sub_self]at hq;have hend:=rk hq;refine rO 15 I ?_;clear I a;intro a I;replace I:=I.kp [2] rfl;refine rC 1 I ?_;clear I a;refine aY ?_;exact .inl ⟨Ae,ce,xs,at1,gu hn10 hend,hat1,by omega,rfl,O⟩
 ·refine .inr ⟨_,rfl,?_⟩;refine rE 2 I ?_;clear I a;intro a I;refine dj I ?_;clear O;have O:=hS';clear hS';refine .inr ⟨?_,⟨older,rfl,ho⟩,at',er,hne,O⟩;rcases hn10 with h | ⟨k,rr,h,h2⟩
  ·exact dS (CM h)
  ·exact uj h h2
theorem sv (W w:World)(L:List As)(r:Nat)(A:Option Addr)(c:Nat)(bs:List UInt8)(at_:Nat)(O:Sat W w (hZ r A c bs at_ true 0::L))(hat:at_≤bs.length)(hb:bs.length≤1000000000000)(hR:∀w,Sat W w L→Rd w 1 (.slice A bs.length c) bs.length (bs.map aj)):Calls Tryz.prog 385 #[.pointer (some ⟨r,0,none⟩)] w fun e w'=>(∃(R:jv) (at':Nat),fy (bs.drop at_)=some (R.d,bs.drop at')∧at'≤bs.length∧R.rs.length≤bs.length∧(∀x∈R.rs,x.p.d.vec.length≤16∧x.p.d.ab.length≤bs.length)∧e=.returned (.slice R.a R.rs.length R.c)∧Sat W w' (hZ r A c bs (at':Int) true 0::R.ch 206 3 219::L))∨((∀xs rr,fy (bs.drop at_)=some (xs,rr)→bZ xs=false)∧xK (.iface 271 (.agg #[.pointer (some ⟨r,0,none⟩)])) e∧∃at' er:Int,er≠0∧Sat W w' (hZ r A c bs at' true er::L)):=by
 refine bS Tryz.func385 [0] ?_;refine uC 14 ?_;intro a I;refine eu I rfl y8 rfl (hJ _ _ _ r A c bs at_ 4 O (by omega) (by omega) hR (by decide) (by decide)) ?_;rintro e w (⟨v6,at6,hn6,ha6,hk6,rfl,hS'⟩ | ⟨hn6,⟨older,rfl,ho⟩,at',er,hne,hS'⟩)
 ·clear O;have O:=hS';clear hS';rw[show (4:Int).toNat=4 from rfl]at hk6;refine .inl ⟨_,rfl,?_⟩;clear I a;refine uO 4 ?_;intro a I;refine wp_loop_ghost (fun (mm:Nat) a w=>∃(i:Nat) (rs:List RL) (Ar:Option Addr) (cr at1:Nat),Ag a 20 [(0,.pointer (some ⟨r,0,none⟩)),(3,.slice Ar (rs).length cr),(6,.int .i64 ((v6:Nat):Int)),(7,.int .i64 ((i:Nat):Int))]∧Sat W w (hZ r A c bs (at1:Int) true 0::rm 206 Ar cr rs::fN 3 219 rs::L)∧(i≤v6)∧(rs.length=i)∧(at1≤bs.length)∧(dG sa v6 none (bs.drop at6)=(dG sa (v6-i) (rs.map RL.d).getLast? (bs.drop at1)).map fun q=>((rs.map RL.d)++q.1,q.2))∧(∀x∈rs,x.p.d.vec.length≤16∧x.p.d.ab.length≤bs.length)∧mm=v6-i) v6 ?_ ?_
  ·replace I:=I.kp [0,3,6,7] rfl;exact⟨0,[],none,0,at6,I,((O.gX.ba 206 3).p 2),(by omega),(by rfl),(by omega),(by exact jz),(by intro v hv;cases hv),by omega⟩
  intro m a w hI;clear O I;obtain⟨i,rs,Ar,cr,at1,I,O,hi,hrl,hat1,hq,hsm,rfl⟩:=hI;refine rC 2 I ?_;clear I a;refine aJ 0 0 (aq rfl rfl) ?_ ?_
  ·intro h8;refine uO 11 ?_;intro a I;refine eu I rfl Fk rfl (nz _ _ _ r A c bs at1 24 O (by omega) (by omega) (fun w s=>hR w s.drop.drop)) ?_;rintro e w (⟨s10,at10,hn10,ha10,rfl,hS'⟩ | ⟨hn10,⟨older,rfl,ho⟩,at',er,hne,hS'⟩)
   ·clear O;have O:=hS';clear hS';refine .inl ⟨_,rfl,?_⟩;clear I a;refine uO 7 ?_;intro a I;refine eu I rfl GM rfl (pG _ _ _ r A c bs at10 O (by omega) hb (fun w s=>hR w s.drop.drop)) ?_;rintro e w (⟨q,at14,hn14,ha14,hqc,rfl,hS'⟩ | ⟨hn14,⟨older,rfl,ho⟩,at',er,hne,hS'⟩)
    ·clear O;have O:=hS';clear hS';refine .inl ⟨_,rfl,?_⟩;clear I a;intro a I;refine o1 0 I (ar I rfl jx) ?_;clear I a;intro a I;refine gF (vss:=[[_,_,_]]) I rfl rfl dk lW rfl rfl rfl (by simp) rfl O ?_;clear I a O;intro A16 w O;intro a I;refine dq I rfl rfl rfl dk lW rfl (O.p 4) (O.rd.src dk (by simp[Value.oneCell'])) (by omega) (by omega) ?_;clear I a O;intro A17 c17 w hc17 O;refine uO 5 ?_;refine u1 2 (ad rfl rfl) ?_;intro a I;replace I:=I.kp [0,3,6,7] rfl;rw[show v6-i=(v6-(i+1))+1 from (by omega)]at hq;have hq2:=iJ hq (Bl hn10 hn14);have em:rs.map RL.d++[(⟨str s10,q.d⟩:bK)]=(rs++[(⟨str s10,q⟩:RL)]).map RL.d:=by rw[List.map_append];rfl
     have eg:some (⟨str s10,q.d⟩:bK)=((rs++[(⟨str s10,q⟩:RL)]).map RL.d).getLast?:=by rw[←em,bH]
     rw[em,eg]at hq2;have el:rs.length+1=(rs++[(⟨str s10,q⟩:RL)]).length:=by simp
     have hS2:=fQ O el (cs':=(rs++[(⟨str s10,q⟩:RL)]).flatMap js) (by rw[List.flatMap_append];rfl);have hS3:=gB (str s10) q ((((((hS2.p 1).p 1).p 2).p 5).p 5).p 5);rw[el]at I;have hqw:=((iK (by omega)).1 hn14).2.len;refine⟨v6-(i+1),by omega,i+1,rs++[(⟨str s10,q⟩:RL)],A17,c17,at14,I,(((hS3.p 2).p 2).p 3).drop,by omega,by simp;omega,ha14,hq2,?_,rfl⟩;intro z hz;rcases List.mem_append.1 hz with hz | hz
     ·exact hsm z hz
     ·simp only[List.mem_singleton]at hz;subst hz;exact⟨hqw,hqc⟩
    ·refine .inr ⟨_,rfl,?_⟩;refine rE 5 I ?_;clear I a;intro a I;refine dj I ?_;clear O;have O:=hS';clear hS';refine .inr ⟨dS (rn hn6 (c6 (n:=v6-(i+1)) (by rw[hq,show v6-i=(v6-(i+1))+1 from by omega]) (EH hn10 hn14))),⟨older,rfl,ho⟩,at',er,hne,((O.p 1).drop.p 1).drop⟩
   ·refine .inr ⟨_,rfl,?_⟩;refine rE 6 I ?_;clear I a;intro a I;refine dj I ?_;clear O;have O:=hS';clear hS';refine .inr ⟨dS (rn hn6 (c6 (n:=v6-(i+1)) (by rw[hq,show v6-i=(v6-(i+1))+1 from by omega]) (EY hn10))),⟨older,rfl,ho⟩,at',er,hne,((O.p 1).drop.p 1).drop⟩
  ·intro h8;obtain rfl:i=v6:=by omega
   intro a I;rw[Nat.sub_self]at hq;have hend:=rk hq;refine rO 16 I ?_;clear I a;refine aY ?_;have hS2:Sat W w (rm 206 Ar cr rs::fN 3 219 rs::hZ r A c bs (at1:Int) true 0::L):=((O.p 2).p 2);have hS3:Sat W w ((⟨Ar,cr,rs⟩:jv).ch 206 3 219::hZ r A c bs (at1:Int) true 0::L):=nm hS2;exact .inl ⟨⟨Ar,cr,rs⟩,at1,rn hn6 hend,hat1,by show rs.length≤_;omega,hsm,rfl,hS3.p 1⟩
 ·refine .inr ⟨_,rfl,?_⟩;refine rE 2 I ?_;clear I a;intro a I;refine dj I ?_;clear O;have O:=hS';clear hS';refine .inr ⟨?_,⟨older,rfl,ho⟩,at',er,hne,O⟩;rcases hn6 with h | ⟨k,rr,h,h2⟩
  ·exact dS (Cr h)
  ·exact uU h h2
def Ij (bs:List UInt8)(b6 b3:Nat)(L:List As)(at' err:Int)(ok:Bool)(M:List As):Prop:=(ok=true∧err=0∧∃(Ae:Option Addr) (ce:Nat) (xs:List aS) (n:Nat),at'=(n:Int)∧fz bs=some (xs,bs.drop n)∧n≤bs.length∧(xs.length * 5≤bs.length)∧M=a6 b6 (.cells #[.slice Ae xs.length ce] 59)::a6 b3 (.cells #[.func (.func 381) #[] #[]] 452)::fJ 216 Ae ce xs::L)∨(ok=false∧err≠0∧(∀xs rr,fz bs=some (xs,rr)→bP xs=false)∧M=a6 b6 (.cells #[.slice none 0 0] 59)::a6 b3 (.cells #[.func (.func 381) #[] #[]] 452)::L)
theorem Aw (W w:World)(L:List As)(r q p b3 b6:Nat)(A:Option Addr)(c:Nat)(bs:List UInt8)(O:Sat W w (hZ r A c bs 0 true 0::iN q r::hP p 0::a6 b6 (.cells #[.slice none 0 0] 59)::a6 b3 (.cells #[.func (.func 381) #[] #[]] 452)::L))(hb:bs.length≤1000000000000)(hR:Rd W 1 (.slice A bs.length c) bs.length (bs.map aj)):Calls Tryz.prog 393 #[.pointer (some ⟨r,0,none⟩),.pointer (some ⟨b3,0,none⟩),.pointer (some ⟨b6,0,none⟩)] w fun e w'=>∃(at' err:Int) (ok:Bool) (M:List As),BN r ok e∧Sat W w' (hZ r A c bs at' true err::iN q r::hP p 0::M)∧Ij bs b6 b3 L at' err ok M:=by
 refine bS Tryz.func393 [0,1,2] ?_;refine uC 1 ?_;refine u1 1 (ld rfl) ?_;intro a I;refine Be I rfl Jg rfl rfl (sF _ _ _ r A c bs 0 O (by omega) hb (fun w h=>hR.sat h)) ?_;rintro e w (⟨Ae,ce,xs,at6,hn6,ha6,hx6,rfl,hS'⟩ | ⟨hn6,⟨older,rfl,ho⟩,at',er,hne,hS'⟩)
 ·clear O;have O:=hS';clear hS';refine .inl ⟨_,rfl,?_⟩;clear I a;intro a I;refine kK I rfl rfl JP JV rfl (O.p 4) rfl ?_;clear O;intro w O;refine rO 1 I ?_;clear I a;intro a I;refine jm (e:=.ret) ?_;refine mR I rfl  ?_;exact⟨(at6:Int),0,true,_,.inl ⟨rfl,rfl⟩,((((((O.p 2).p 5).p 2).p 5).p 5).p 5),.inl ⟨rfl,rfl,Ae,ce,xs,at6,rfl,hn6,ha6,hx6,rfl⟩⟩
 ·refine .inr ⟨_,rfl,?_⟩;refine dj I ?_;clear O;have O:=hS';clear hS';exact⟨at',er,false,_,.inr ⟨rfl,.inl ⟨older,rfl,ho⟩⟩,O,.inr ⟨rfl,hne,hn6,rfl⟩⟩
def IZ (bs:List UInt8)(b6 b3:Nat)(L:List As)(at' err:Int)(ok:Bool)(M:List As):Prop:=(ok=true∧err=0∧∃(z:PL) (n:Nat),at'=(n:Int)∧cL bs=some (z.d,bs.drop n)∧n≤bs.length∧(z.d.ab.length≤bs.length)∧M=a6 b6 (.cells #[.slice z.va z.d.vec.length z.vc,.slice z.ca z.d.ab.length z.cc] 63)::a6 b3 (.cells #[.func (.func 383) #[] #[]] 455)::cq 3 z.va z.vc z.d.vec::bp 219 z.ca z.cc z.d.ab::L)∨(ok=false∧err≠0∧(cL bs=none)∧M=a6 b6 (.cells #[.slice none 0 0,.slice none 0 0] 63)::a6 b3 (.cells #[.func (.func 383) #[] #[]] 455)::L)
theorem za (W w:World)(L:List As)(r q p b3 b6:Nat)(A:Option Addr)(c:Nat)(bs:List UInt8)(O:Sat W w (hZ r A c bs 0 true 0::iN q r::hP p 0::a6 b6 (.cells #[.slice none 0 0,.slice none 0 0] 63)::a6 b3 (.cells #[.func (.func 383) #[] #[]] 455)::L))(hb:bs.length≤1000000000000)(hR:Rd W 1 (.slice A bs.length c) bs.length (bs.map aj)):Calls Tryz.prog 395 #[.pointer (some ⟨r,0,none⟩),.pointer (some ⟨b3,0,none⟩),.pointer (some ⟨b6,0,none⟩)] w fun e w'=>∃(at' err:Int) (ok:Bool) (M:List As),BN r ok e∧Sat W w' (hZ r A c bs at' true err::iN q r::hP p 0::M)∧IZ bs b6 b3 L at' err ok M:=by
 refine bS Tryz.func395 [0,1,2] ?_;refine uC 1 ?_;refine u1 1 (ld rfl) ?_;intro a I;refine Be I rfl GM rfl rfl (pG _ _ _ r A c bs 0 O (by omega) hb (fun w h=>hR.sat h)) ?_;rintro e w (⟨z,at6,hn6,ha6,hx6,rfl,hS'⟩ | ⟨hn6,⟨older,rfl,ho⟩,at',er,hne,hS'⟩)
 ·clear O;have O:=hS';clear hS';refine .inl ⟨_,rfl,?_⟩;clear I a;intro a I;refine HD I (vs:=[_,_]) rfl rfl aO (by simp[Value.oneCell']) (O.p 5) (by simp) ?_;clear O;intro w O;refine rO 1 I ?_;clear I a;intro a I;refine jm (e:=.ret) ?_;refine mR I rfl  ?_;exact⟨(at6:Int),0,true,_,.inl ⟨rfl,rfl⟩,(((((((O.p 3).p 3).p 6).p 3).p 6).p 6).p 6),.inl ⟨rfl,rfl,z,at6,rfl,hn6,ha6,hx6,rfl⟩⟩
 ·refine .inr ⟨_,rfl,?_⟩;refine dj I ?_;clear O;have O:=hS';clear hS';exact⟨at',er,false,_,.inr ⟨rfl,.inl ⟨older,rfl,ho⟩⟩,O,.inr ⟨rfl,hne,hn6,rfl⟩⟩
def I5 (bs:List UInt8)(b6 b3:Nat)(L:List As)(at' err:Int)(ok:Bool)(M:List As):Prop:=(ok=true∧err=0∧∃(R:jv) (n:Nat),at'=(n:Int)∧fy bs=some (R.d,bs.drop n)∧n≤bs.length∧(R.rs.length≤bs.length∧(∀x∈R.rs,x.p.d.vec.length≤16∧x.p.d.ab.length≤bs.length))∧M=a6 b6 (.cells #[.slice R.a R.rs.length R.c] 64)::a6 b3 (.cells #[.func (.func 385) #[] #[]] 458)::R.ch 206 3 219::L)∨(ok=false∧err≠0∧(∀xs rr,fy bs=some (xs,rr)→bZ xs=false)∧M=a6 b6 (.cells #[.slice none 0 0] 64)::a6 b3 (.cells #[.func (.func 385) #[] #[]] 458)::L)
theorem zy (W w:World)(L:List As)(r q p b3 b6:Nat)(A:Option Addr)(c:Nat)(bs:List UInt8)(O:Sat W w (hZ r A c bs 0 true 0::iN q r::hP p 0::a6 b6 (.cells #[.slice none 0 0] 64)::a6 b3 (.cells #[.func (.func 385) #[] #[]] 458)::L))(hb:bs.length≤1000000000000)(hR:Rd W 1 (.slice A bs.length c) bs.length (bs.map aj)):Calls Tryz.prog 396 #[.pointer (some ⟨r,0,none⟩),.pointer (some ⟨b3,0,none⟩),.pointer (some ⟨b6,0,none⟩)] w fun e w'=>∃(at' err:Int) (ok:Bool) (M:List As),BN r ok e∧Sat W w' (hZ r A c bs at' true err::iN q r::hP p 0::M)∧I5 bs b6 b3 L at' err ok M:=by
 refine bS Tryz.func396 [0,1,2] ?_;refine uC 1 ?_;refine u1 1 (ld rfl) ?_;intro a I;refine Be I rfl I8 rfl rfl (sv _ _ _ r A c bs 0 O (by omega) hb (fun w h=>hR.sat h)) ?_;rintro e w (⟨R,at6,hn6,ha6,hx6,hx7,rfl,hS'⟩ | ⟨hn6,⟨older,rfl,ho⟩,at',er,hne,hS'⟩)
 ·clear O;have O:=hS';clear hS';refine .inl ⟨_,rfl,?_⟩;clear I a;intro a I;refine kK I rfl rfl J0 J8 rfl (O.p 4) rfl ?_;clear O;intro w O;refine rO 1 I ?_;clear I a;intro a I;refine jm (e:=.ret) ?_;refine mR I rfl  ?_;exact⟨(at6:Int),0,true,_,.inl ⟨rfl,rfl⟩,((((((O.p 2).p 5).p 2).p 5).p 5).p 5),.inl ⟨rfl,rfl,R,at6,rfl,hn6,ha6,⟨hx6,hx7⟩,rfl⟩⟩
 ·refine .inr ⟨_,rfl,?_⟩;refine dj I ?_;clear O;have O:=hS';clear hS';exact⟨at',er,false,_,.inr ⟨rfl,.inl ⟨older,rfl,ho⟩⟩,O,.inr ⟨rfl,hne,hn6,rfl⟩⟩
theorem Bb (W:World)(A:Option Addr)(c:Nat)(bs:List UInt8)(hb:bs.length≤1000000000000)(hR:Rd W 1 (.slice A bs.length c) bs.length (bs.map aj)):Calls Tryz.prog 380 #[.slice A (bs).length c,.func (.func 381) #[] #[]] W fun e w'=>(∃(Ae:Option Addr) (ce:Nat) (xs:List aS),fz bs=some (xs,[])∧(xs.length * 5≤bs.length)∧e=.returned (.tuple #[.slice Ae xs.length ce,.bool true])∧Sat W w' [fJ 216 Ae ce xs])∨((∀xs,fz bs=some (xs,[])→bP xs=false)∧∃v,e=.returned (.tuple #[v,.bool false])∧Sat W w' []):=by
 refine bS Tryz.func380 [0,1] ?_;have O:=Sat.start W;refine uC 2 ?_;refine uB rfl O ?_;clear O;intro b3 w O;refine uO 6 ?_;refine uN JF O ?_;clear O;intro b6 w O;refine uO 5 ?_;intro a I;refine o1 0 I (qY (I.mW rfl)) ?_;clear I a;refine uF rfl (jH _ _ _ A c bs (fun _ at' err ok M=>Ij bs b6 b3 [] at' err ok M) 393 [.pointer (some ⟨b3,0,none⟩),.pointer (some ⟨b6,0,none⟩)] (O) (by omega) HU (fun w r q p O=>(Aw _ _ _ r q p b3 b6 A c bs O hb hR))) ?_;rintro e w ⟨r0,q0,p0,at',err,ok,M,rfl,O,(⟨rfl,rfl,Ae,ce,xs,at6,rfl,hn6,ha6,hx6,rfl⟩ | ⟨rfl,hne,hn6,rfl⟩)⟩
 ·replace O:=O.drop.drop.drop;refine uO 5 ?_;refine u1 1 (ld rfl) ?_;refine u1 5 (aU rfl rfl) ?_;refine fo ?_;rw[show decide (qa true 0 (at6:Int) bs.length=0)=decide (bs.length≤at6) from by rw[decide_eq_decide,mr rfl];(simp;done)]
  by_cases hle:bs.length≤at6
  ·rw[List.drop_of_length_le hle]at hn6;rw[decide_eq_true hle];exact .inl ⟨Ae,ce,xs,hn6,hx6,rfl,Sat.cw (M:=[_]) (O.p 2) _⟩
  ·rw[decide_eq_false hle];refine .inr ⟨?_,_,rfl,O.nil⟩;intro d h;rw[hn6]at h
   injection h with h
   have h2:=congrArg List.length (Prod.mk.inj h).2;rw[List.length_drop]at h2;simp at h2;omega
 ·replace O:=O.drop.drop.drop;refine uO 5 ?_;refine u1 1 (ld rfl) ?_;refine u1 5 (aU rfl rfl) ?_;refine fo ?_;rw[show decide (qa false err at' bs.length=0)=false from by rw[decide_eq_false];rw[kR rfl,if_pos hne];exact hne];exact .inr ⟨fun xs h=>hn6 xs [] h,_,rfl,O.nil⟩
theorem BM (W:World)(A:Option Addr)(c:Nat)(bs:List UInt8)(hb:bs.length≤1000000000000)(hR:Rd W 1 (.slice A bs.length c) bs.length (bs.map aj)):Calls Tryz.prog 382 #[.slice A (bs).length c,.func (.func 383) #[] #[]] W fun e w'=>(∃(z:PL),cL bs=some (z.d,[])∧(z.d.ab.length≤bs.length)∧e=.returned (.tuple #[.agg #[.slice z.va z.d.vec.length z.vc,.slice z.ca z.d.ab.length z.cc],.bool true])∧Sat W w' [cq 3 z.va z.vc z.d.vec,bp 219 z.ca z.cc z.d.ab])∨((∀d,cL bs=some (d,[])→bg d=false)∧∃z:PL,e=.returned (.tuple #[.agg #[.slice z.va z.d.vec.length z.vc,.slice z.ca z.d.ab.length z.cc],.bool false])∧Sat W w' []):=by
 refine bS Tryz.func382 [0,1] ?_;have O:=Sat.start W;refine uC 2 ?_;refine uB rfl O ?_;clear O;intro b3 w O;refine uN cY O ?_;clear O;intro b4 w O;refine uO 5 ?_;refine uN cY O ?_;clear O;intro b6 w O;refine uO 5 ?_;intro a I;refine o1 0 I (qY (I.mW rfl)) ?_;clear I a;refine uF rfl (jH _ _ _ A c bs (fun _ at' err ok M=>IZ bs b6 b3 [a6 b4 (.cells #[.slice none 0 0,.slice none 0 0] 63)] at' err ok M) 395 [.pointer (some ⟨b3,0,none⟩),.pointer (some ⟨b6,0,none⟩)] ((((O.p 1).p 2).p 2)) (by omega) IX (fun w r q p O=>(za _ _ _ r q p b3 b6 A c bs O hb hR))) ?_;rintro e w ⟨r0,q0,p0,at',err,ok,M,rfl,O,(⟨rfl,rfl,z,at6,rfl,hn6,ha6,hx6,rfl⟩ | ⟨rfl,hne,hn6,rfl⟩)⟩
 ·replace O:=O.drop.drop.drop;refine uO 5 ?_;refine u1 1 (lS (cs:=[_,_]) rfl) ?_;refine u1 0 (aU rfl rfl) ?_;refine uW (vs:=[_,_]) (cs':=[_,_]) rfl rfl aO (O.p 4) ?_;clear O;intro w O;refine uO 4 ?_;intro a I;refine bO I rfl (br (cs:=[_,_]) I rfl cS aO (by exact O.ao (xs:=[_,_]) rfl)) (aQ I rfl) ?_;rw[show decide (qa true 0 (at6:Int) bs.length=0)=decide (bs.length≤at6) from by rw[decide_eq_decide,mr rfl];(simp;done)]
  by_cases hle:bs.length≤at6
  ·rw[List.drop_of_length_le hle]at hn6;rw[decide_eq_true hle];exact .inl ⟨z,hn6,hx6,rfl,Sat.cw (M:=[_,_]) ((O.p 4).p 4) _⟩
  ·rw[decide_eq_false hle];refine .inr ⟨?_,z,rfl,O.nil⟩;intro d h;rw[hn6]at h
   injection h with h
   have h2:=congrArg List.length (Prod.mk.inj h).2;rw[List.length_drop]at h2;simp at h2;omega
 ·replace O:=O.drop.drop.drop;refine uO 5 ?_;refine u1 1 (lS (cs:=[_,_]) rfl) ?_;refine u1 0 (aU rfl rfl) ?_;refine uW (vs:=[_,_]) (cs':=[_,_]) rfl rfl aO (O.p 2) ?_;clear O;intro w O;refine uO 4 ?_;intro a I;refine bO I rfl (br (cs:=[_,_]) I rfl cS aO (by exact O.ao (xs:=[_,_]) rfl)) (aQ I rfl) ?_;rw[show decide (qa false err at' bs.length=0)=false from by rw[decide_eq_false];rw[kR rfl,if_pos hne];exact hne];exact .inr ⟨fun d h=>(by rw[hn6]at h;cases h),⟨none,0,none,0,⟨[],[]⟩⟩,rfl,O.nil⟩
theorem Bc (W:World)(A:Option Addr)(c:Nat)(bs:List UInt8)(hb:bs.length≤1000000000000)(hR:Rd W 1 (.slice A bs.length c) bs.length (bs.map aj)):Calls Tryz.prog 384 #[.slice A (bs).length c,.func (.func 385) #[] #[]] W fun e w'=>(∃(R:jv),fy bs=some (R.d,[])∧(R.rs.length≤bs.length∧(∀x∈R.rs,x.p.d.vec.length≤16∧x.p.d.ab.length≤bs.length))∧e=.returned (.tuple #[.slice R.a R.rs.length R.c,.bool true])∧Sat W w' [R.ch 206 3 219])∨((∀xs,fy bs=some (xs,[])→bZ xs=false)∧∃v,e=.returned (.tuple #[v,.bool false])∧Sat W w' []):=by
 refine bS Tryz.func384 [0,1] ?_;have O:=Sat.start W;refine uC 2 ?_;refine uB rfl O ?_;clear O;intro b3 w O;refine uO 6 ?_;refine uN JW O ?_;clear O;intro b6 w O;refine uO 5 ?_;intro a I;refine o1 0 I (qY (I.mW rfl)) ?_;clear I a;refine uF rfl (jH _ _ _ A c bs (fun _ at' err ok M=>I5 bs b6 b3 [] at' err ok M) 396 [.pointer (some ⟨b3,0,none⟩),.pointer (some ⟨b6,0,none⟩)] (O) (by omega) IQ (fun w r q p O=>(zy _ _ _ r q p b3 b6 A c bs O hb hR))) ?_;rintro e w ⟨r0,q0,p0,at',err,ok,M,rfl,O,(⟨rfl,rfl,R,at6,rfl,hn6,ha6,hx6,rfl⟩ | ⟨rfl,hne,hn6,rfl⟩)⟩
 ·replace O:=O.drop.drop.drop;refine uO 5 ?_;refine u1 1 (ld rfl) ?_;refine u1 5 (aU rfl rfl) ?_;refine fo ?_;rw[show decide (qa true 0 (at6:Int) bs.length=0)=decide (bs.length≤at6) from by rw[decide_eq_decide,mr rfl];(simp;done)]
  by_cases hle:bs.length≤at6
  ·rw[List.drop_of_length_le hle]at hn6;rw[decide_eq_true hle];exact .inl ⟨R,hn6,hx6,rfl,Sat.cw (M:=[_]) (O.p 2) _⟩
  ·rw[decide_eq_false hle];refine .inr ⟨?_,_,rfl,O.nil⟩;intro d h;rw[hn6]at h
   injection h with h
   have h2:=congrArg List.length (Prod.mk.inj h).2;rw[List.length_drop]at h2;simp at h2;omega
 ·replace O:=O.drop.drop.drop;refine uO 5 ?_;refine u1 1 (ld rfl) ?_;refine u1 5 (aU rfl rfl) ?_;refine fo ?_;rw[show decide (qa false err at' bs.length=0)=false from by rw[decide_eq_false];rw[kR rfl,if_pos hne];exact hne];exact .inr ⟨fun xs h=>hn6 xs [] h,_,rfl,O.nil⟩
theorem sq (W:World)(A:Option Addr)(c:Nat)(bs:List UInt8)(hb:bs.length≤16777216)(hR:Rd W 1 (.slice A bs.length c) bs.length (bs.map aj)):Calls Tryz.prog 365 #[.slice A (bs).length c] W fun e w'=>(∃(Ae:Option Addr) (ce:Nat) (xs:List aS),fz bs=some (xs,[])∧bP xs=true∧(xs.length * 5≤bs.length)∧e=.returned (.tuple #[.slice Ae xs.length ce,.int .i64 0])∧Sat W w' [fJ 216 Ae ce xs])∨((∀xs,fz bs=some (xs,[])→bP xs=false)∧e=.returned (.tuple #[.slice none 0 0,.int .i64 8])∧Sat W w' []):=by
 refine bS Tryz.func365 [0] ?_;have O:=Sat.start W;refine uC 9 ?_;refine uF rfl (Bb _ A c bs (by omega) (hR.sat O)) ?_;rintro e w (⟨Ae,ce,xs,hq,hbd,rfl,hT⟩ | ⟨hno,v,rfl,hT⟩)
 ·replace O:=O.aM hT;clear hT;refine uO 1 ?_;refine u1 0 (ai rfl rfl) ?_;refine j4 0 0 (ai rfl rfl) ?_ ?_
  ·intro h10;intro a I;simp only at h10;refine rO 8 I ?_;clear I a;refine u1 2 (aB rfl) ?_;refine iV rfl (jr _ Ae ce xs O.rd (by omega)) ?_;rintro e w ⟨rfl,hT⟩;replace O:Sat _ _ _:=O.ag hT;clear hT;refine aJ 0 0 (aD rfl rfl) ?_ ?_
   ·intro h16;refine uO 12 ?_;refine fo ?_;have hg:bP xs=false:=by simpa[jv.d]using h16
    refine .inr ⟨?_,rfl,O.nil⟩;intro d h;rw[hq]at h;cases h;exact hg
   ·intro h16;refine uO 14 ?_;refine fo ?_;have hg:bP xs=true:=by simpa[jv.d]using h16
    exact .inl ⟨Ae,ce,xs,hq,hg,hbd,rfl,gy O⟩
  ·intro h10;intro a I;contradiction
 ·replace O:Sat _ _ _:=O.ag hT;clear hT;refine uO 1 ?_;refine u1 0 (ai rfl rfl) ?_;refine j4 0 0 (ai rfl rfl) ?_ ?_
  ·intro h10;intro a I;contradiction
  ·intro h10;intro a I;simp only at h10;refine rO 8 I ?_;clear I a;refine u1 16 (aB rfl) ?_;refine fo ?_;exact .inr ⟨hno,rfl,O.nil⟩
theorem pS (W:World)(A:Option Addr)(c:Nat)(bs:List UInt8)(hb:bs.length≤16777216)(hR:Rd W 1 (.slice A bs.length c) bs.length (bs.map aj)):Calls Tryz.prog 366 #[.slice A (bs).length c] W fun e w'=>(∃(z:PL),cL bs=some (z.d,[])∧bg z.d=true∧(z.d.ab.length≤bs.length)∧e=.returned (.tuple #[.agg #[.slice z.va z.d.vec.length z.vc,.slice z.ca z.d.ab.length z.cc],.int .i64 0])∧Sat W w' [cq 3 z.va z.vc z.d.vec,bp 219 z.ca z.cc z.d.ab])∨((∀d,cL bs=some (d,[])→bg d=false)∧e=.returned (.tuple #[.agg #[.slice none 0 0,.slice none 0 0],.int .i64 8])∧Sat W w' []):=by
 refine bS Tryz.func366 [0] ?_;have O:=Sat.start W;refine uC 2 ?_;refine uN cY O ?_;clear O;intro b2 w O;refine uO 6 ?_;refine uF rfl (BM _ A c bs (by omega) (hR.sat O)) ?_;rintro e w (⟨z,hq,hbd,rfl,hT⟩ | ⟨hno,z,rfl,hT⟩)
 ·replace O:Sat _ _ (_::_::_):=O.ag hT;clear hT;have hzv:=((iK (by omega)).1 hq).2.len;refine uO 1 ?_;refine u1 0 (ai rfl rfl) ?_;refine j4 0 0 (ai rfl rfl) ?_ ?_
  ·intro h10;intro a I;simp only at h10;refine goN I rfl cY O ?_;clear I a O;intro b4 w O;refine uW (vs:=[_,_]) (cs':=[_,_]) rfl rfl aO O ?_;clear O;intro w O;refine uO 7 ?_;refine u1 1 (aB rfl) ?_;refine u1 0 (lS (cs:=[_,_]) rfl) ?_;refine iV rfl (gx _ z ⟨(O.p 1).rd,(O.p 2).rd⟩ (by omega) (by omega)) ?_;rintro e w ⟨rfl,hT⟩;replace O:Sat _ _ _:=O.ag hT;clear hT;generalize h15:(bg z.d)=bb;cases bb
   ·refine u1 6 (aB rfl) ?_;intro a I;refine o1 0 I (ar I rfl l5) ?_;clear I a;refine uW (vs:=[_,_]) (cs':=[_,_]) rfl rfl aO (O.p 3) ?_;clear O;intro w O;refine uO 5 ?_;intro a I;refine bO I rfl (br (cs:=[_,_]) I rfl cS aO (by exact O.ao (xs:=[_,_]) rfl)) (aQ I rfl) ?_;have hg:bg z.d=false:=h15;refine .inr ⟨?_,rfl,O.nil⟩;intro d h;rw[hq]at h;cases h;exact hg
   ·refine u1 8 (aB rfl) ?_;refine u1 0 (lS (cs:=[_,_]) rfl) ?_;refine uW (vs:=[_,_]) (cs':=[_,_]) rfl rfl aO (O.p 3) ?_;clear O;intro w O;refine uO 4 ?_;intro a I;refine bO I rfl (br (cs:=[_,_]) I rfl cS aO (by exact O.ao (xs:=[_,_]) rfl)) (aQ I rfl) ?_;have hg:bg z.d=true:=h15;exact .inl ⟨z,hq,hg,hbd,rfl,n5 ((O.p 3).p 3)⟩
  ·intro h10;intro a I;contradiction
 ·replace O:Sat _ _ _:=O.ag hT;clear hT;refine uO 1 ?_;refine u1 0 (ai rfl rfl) ?_;refine j4 0 0 (ai rfl rfl) ?_ ?_
  ·intro h10;intro a I;contradiction
  ·intro h10;intro a I;simp only at h10;refine goN I rfl cY O ?_;clear I a O;intro b4 w O;refine uW (vs:=[_,_]) (cs':=[_,_]) rfl rfl aO O ?_;clear O;intro w O;refine uO 7 ?_;refine u1 10 (aB rfl) ?_;intro a I;refine o1 0 I (ar I rfl l5) ?_;clear I a;refine uW (vs:=[_,_]) (cs':=[_,_]) rfl rfl aO (O.p 1) ?_;clear O;intro w O;refine uO 5 ?_;intro a I;refine bO I rfl (br (cs:=[_,_]) I rfl cS aO (by exact O.ao (xs:=[_,_]) rfl)) (aQ I rfl) ?_;exact .inr ⟨hno,rfl,O.nil⟩
theorem gm (W:World)(A:Option Addr)(c:Nat)(bs:List UInt8)(hb:bs.length≤16777216)(hR:Rd W 1 (.slice A bs.length c) bs.length (bs.map aj)):Calls Tryz.prog 367 #[.slice A (bs).length c] W fun e w'=>(∃(R:jv),fy bs=some (R.d,[])∧bZ R.d=true∧(R.rs.length≤bs.length∧(∀x∈R.rs,x.p.d.vec.length≤16∧x.p.d.ab.length≤bs.length))∧e=.returned (.tuple #[.slice R.a R.rs.length R.c,.int .i64 0])∧Sat W w' [R.ch 206 3 219])∨((∀xs,fy bs=some (xs,[])→bZ xs=false)∧e=.returned (.tuple #[.slice none 0 0,.int .i64 8])∧Sat W w' []):=by
 refine bS Tryz.func367 [0] ?_;have O:=Sat.start W;refine uC 9 ?_;refine uF rfl (Bc _ A c bs (by omega) (hR.sat O)) ?_;rintro e w (⟨R,hq,hbd,rfl,hT⟩ | ⟨hno,v,rfl,hT⟩)
 ·replace O:=O.aM hT;clear hT;have hrl:=hbd.1;refine uO 1 ?_;refine u1 0 (ai rfl rfl) ?_;refine j4 0 0 (ai rfl rfl) ?_ ?_
  ·intro h10;intro a I;simp only at h10;refine rO 8 I ?_;clear I a;refine u1 2 (aB rfl) ?_;intro a I;refine I7 I (aT I rfl rfl rfl) rfl Iu rfl (gk _ R.a R.c R.rs (jv.sD O).top (jv.sD O).each (fun r hr=>by have:=hbd.2 r hr;omega) (by omega)) ?_;clear I a;rintro e w ⟨rfl,hT⟩;replace O:Sat _ _ _:=O.ag hT;clear hT;refine⟨_,rfl,?_⟩;refine aJ 0 0 (aD rfl rfl) ?_ ?_
   ·intro h16;refine uO 12 ?_;refine fo ?_;have hg:bZ R.d=false:=by simpa[jv.d]using h16
    refine .inr ⟨?_,rfl,O.nil⟩;intro d h;rw[hq]at h;cases h;exact hg
   ·intro h16;refine uO 14 ?_;refine fo ?_;have hg:bZ R.d=true:=by simpa[jv.d]using h16
    exact .inl ⟨R,hq,hg,hbd,rfl,gy O⟩
  ·intro h10;intro a I;contradiction
 ·replace O:Sat _ _ _:=O.ag hT;clear hT;refine uO 1 ?_;refine u1 0 (ai rfl rfl) ?_;refine j4 0 0 (ai rfl rfl) ?_ ?_
  ·intro h10;intro a I;contradiction
  ·intro h10;intro a I;simp only at h10;refine rO 8 I ?_;clear I a;refine u1 16 (aB rfl) ?_;refine fo ?_;exact .inr ⟨hno,rfl,O.nil⟩
end Go.Proofs.YtkjabaihpkbfhaaGreat.Wk
namespace Go.Proofs.YtkjabaihpkbfhaaGreat.K
open Go Go.RowKit
variable {P:Program} {a:Act} {n:Nat} {E:Env} {w:World}
theorem H8 {f:ResultVar→Sem Value}{r s u t:ResultVar}{v x z y:Value}(h1:(f r).run P w=.ok v w)(h2:(f s).run P w=.ok x w)(h3:(f u).run P w=.ok z w)(h4:(f t).run P w=.ok y w):((#[r,s,u,t]:Array ResultVar).mapM f).run P w=.ok #[v,x,z,y] w:=by
 simp[go_sem,h1,h2,h3,h4]
theorem ej {fn:Func}{R:Ending→World→Prop}{r s u t:ResultVar}{v x z y:Value}(I:Ag a n E)(hr:fn.results=#[r,s,u,t])(hv:mG P w a.tmps r v)(hx:mG P w a.tmps s x)(hz:mG P w a.tmps u z)(hy:mG P w a.tmps t y)(h:R (.returned (.tuple #[v,x,z,y])) w):bodyPost P fn R .ret a w:=
 ⟨I.defers,.tuple #[v,x,z,y],by rw[nu,hr,Sem.run_bind',H8 hv hx hz hy];rfl,h⟩
end Go.Proofs.YtkjabaihpkbfhaaGreat.K
namespace Go.Proofs.YtkjabaihpkbfhaaGreat.Wk
open Go Go.RowKit Go.Proofs.YtkjabaihpkbfhaaGreat Go.Proofs.YtkjabaihpkbfhaaGreat.K Go.Proofs.YtkjabaihpkbfhaaGreat.T
def my (k:Nat)(f:iR→Bool)(b:List UInt8):Prop:=∀d:iR,f d=true→b≠cC k d
theorem ek {xs:List aS}(h:bP xs=true)(hl:xs.length≤9223372036854775807):fz (fb xs)=some (xs,[]):=r4.2 ⟨by simp,o9 h,hl⟩
theorem iE {p:aI}(h:bg p=true)(hl:p.ab.length≤9223372036854775807):cL (eH p)=some (p,[]):=(iK hl).2 ⟨by simp,(jT.1 h).toDP⟩
theorem Gn {rs:List bK}(h:∀r∈rs,eZ r=true)(hl:∀r∈rs,r.bx.ab.length≤9223372036854775807):j7 EK none rs:=by
 have:∀(l:List bK) (p:Option bK),(∀r∈l,eZ r=true)→(∀r∈l,r.bx.ab.length≤9223372036854775807)→j7 EK p l:=by
  intro l
  induction l with
  | nil=>intro p _ _;trivial
  | cons x l ih =>
    intro p h1 h2;have h3:=o7 (h1 x (by simp));exact⟨⟨h3.1,h3.2.toDP,h2 x (by simp)⟩,ih _ (fun r hr=>h1 r (by simp[hr])) (fun r hr=>h2 r (by simp[hr]))⟩
 exact this rs none h hl
theorem mD {rs:List bK}(h:bZ rs=true)(hl:(dO rs).length≤9223372036854775807):fy (dO rs)=some (rs,[]):=by
 have hs:=qL rs;have hn:=oz (rs.map bK.bx);rw[List.length_map]at hn;refine mB.2 ⟨by simp,Gn (fX h) (fun r hr=>?_),by omega⟩;have:=qM (List.mem_map.2 ⟨r,hr,rfl⟩:r.bx∈rs.map bK.bx);omega
theorem lL {k:Nat}{d:iR}(hk:k≤2)(hL:(cC k d).length≤9223372036854775807):∃r0 r1 r2:List UInt8,bh 2 (cC k d)=some (k,r0)∧cy 9223372036854775807 r0=some (fb d.jn,r1)∧cy 9223372036854775807 r1=some (eH d.bx,r2)∧cy 9223372036854775807 r2=some (dO d.mw,[]):=by
 unfold cC fr at hL ⊢;simp only[List.length_append]at hL;exact⟨_,_,_,aW.2 ⟨rfl,by omega,by omega⟩,dY.2 ⟨rfl,by omega,by omega⟩,dY.2 ⟨rfl,by omega,by omega⟩,dY.2 ⟨by simp,by omega,by omega⟩⟩
section
variable {k:Nat} {f:iR→Bool} {b:List UInt8}
theorem Kz (hk:k≤2)(hL:b.length≤9223372036854775807)(h:bh 2 b=none):my k f b:=fun d _ e=>by
 subst e;obtain⟨r0,r1,r2,h0,_⟩:=lL hk hL;rw[h0]at h;cases h
theorem Kx (hk:k≤2)(hL:b.length≤9223372036854775807){v:Nat}{r0:List UInt8}(h0:bh 2 b=some (v,r0))(h:(v:Int)≠(k:Int)):my k f b:=fun d _ e=>by
 subst e;obtain⟨s0,r1,r2,g0,_⟩:=lL hk hL;rw[g0]at h0;cases h0;exact h rfl
theorem Ke (hk:k≤2)(hL:b.length≤9223372036854775807){v:Nat}{r0:List UInt8}(h0:bh 2 b=some (v,r0))(h:cy 9223372036854775807 r0=none):my k f b:=fun d _ e=>by
 subst e;obtain⟨s0,r1,r2,g0,g1,_⟩:=lL hk hL;rw[g0]at h0;cases h0;rw[g1]at h;cases h
theorem JS (hk:k≤2)(hL:b.length≤9223372036854775807){v:Nat}{r0 r1 f0:List UInt8}(h0:bh 2 b=some (v,r0))(h1:cy 9223372036854775807 r0=some (f0,r1))(h:cy 9223372036854775807 r1=none):my k f b:=fun d _ e=>by
 subst e;obtain⟨s0,s1,r2,g0,g1,g2,_⟩:=lL hk hL;rw[g0]at h0;cases h0;rw[g1]at h1;cases h1;rw[g2]at h;cases h
theorem JC (hk:k≤2)(hL:b.length≤9223372036854775807){v:Nat}{r0 r1 r2 f0 f1:List UInt8}(h0:bh 2 b=some (v,r0))(h1:cy 9223372036854775807 r0=some (f0,r1))(h2:cy 9223372036854775807 r1=some (f1,r2))(h:cy 9223372036854775807 r2=none):my k f b:=fun d _ e=>by
 subst e;obtain⟨s0,s1,s2,g0,g1,g2,g3⟩:=lL hk hL;rw[g0]at h0;cases h0;rw[g1]at h1;cases h1;rw[g2]at h2;cases h2;rw[g3]at h;cases h
theorem vd (hk:k≤2)(hL:b.length≤9223372036854775807){v:Nat}{r0 r1 r2 r3 f0 f1 f2:List UInt8}(h0:bh 2 b=some (v,r0))(h1:cy 9223372036854775807 r0=some (f0,r1))(h2:cy 9223372036854775807 r1=some (f1,r2))(h3:cy 9223372036854775807 r2=some (f2,r3))
 (hf:∀d,f d=true→r3=[]→f0=fb d.jn→f1=eH d.bx→f2=dO d.mw→False):my k f b:=fun d hd e=>by
 subst e;obtain⟨s0,s1,s2,g0,g1,g2,g3⟩:=lL hk hL;rw[g0]at h0;cases h0;rw[g1]at h1;cases h1;rw[g2]at h2;cases h2;rw[g3]at h3;cases h3;exact hf d hd rfl rfl rfl rfl
theorem GW {v:Nat}{r0 r1 r2 f0 f1 f2:List UInt8}{d:iR}(h0:bh 2 b=some (v,r0))(hv:v=k)(h1:cy 9223372036854775807 r0=some (f0,r1))(h2:cy 9223372036854775807 r1=some (f1,r2))(h3:cy 9223372036854775807 r2=some (f2,[]))
 (e0:fz f0=some (d.jn,[])) (e1:cL f1=some (d.bx,[])) (e2:fy f2=some (d.mw,[])) (hc:d.bx.ab.length≤9223372036854775807):b=cC k d:=by
 subst hv;obtain⟨rfl,_,_⟩:=aW.1 h0;obtain⟨rfl,_,_⟩:=dY.1 h1;obtain⟨rfl,_,_⟩:=dY.1 h2;obtain⟨rfl,_,_⟩:=dY.1 h3;obtain⟨rfl,_,_⟩:=r4.1 e0;obtain⟨rfl,_⟩:=(iK hc).1 e1;obtain⟨rfl,_,_⟩:=mB.1 e2;unfold cC fr;simp only[List.append_nil,List.append_assoc]
end
theorem ed {xs:List aS}{n:Nat}(h:(fb xs).length≤n)(hn:n≤9223372036854775807:=by omega):xs.length≤9223372036854775807:=by
 have h1:=j2 (g:=oe) (k:=4) (fun p e=>Ez p e) xs none;unfold fb at h;rw[List.length_append]at h;omega
theorem iH {p:aI}{n:Nat}(h:(eH p).length≤n)(hn:n≤9223372036854775807:=by omega):p.ab.length≤9223372036854775807:=by
 have:=qn p;omega
theorem zD {es:List aS}{p:aI}{rs:List bK}(h1:bP es=true)(h2:bg p=true)(h3:bZ rs=true):aH ⟨es,p,rs⟩=true:=by
 unfold aH;dsimp only;rw[h1,h2,h3];rfl
theorem fl (W w:World)(L:List As)(r:Nat)(A:Option Addr)(c:Nat)(bs:List UInt8)(at_:Nat)(mo:Int)(O:Sat W w (hZ r A c bs at_ true 0::L))(hat:at_≤bs.length)(hb:bs.length≤140737488355328)(hR:∀w,Sat W w L→Rd w 1 (.slice A bs.length c) bs.length (bs.map aj)):Calls Tryz.prog 103 #[.pointer (some ⟨r,0,none⟩),.int .i64 mo] w fun e w'=>
 (∃(s:List UInt8) (at':Nat) (A':Option Addr) (c':Nat),cy mo (bs.drop at_)=some (s,bs.drop at')∧at'≤bs.length∧s.length≤bs.length∧e=.returned (.slice A' s.length c')∧Sat W w' (hZ r A c bs (at':Int) true 0::row 5 1 (.slice A' (s).length c') (s).length ((s).map aj)::L))∨(cy mo (bs.drop at_)=none∧xK (.iface 271 (.agg #[.pointer (some ⟨r,0,none⟩)])) e∧∃at' er:Int,er≠0∧Sat W w' (hZ r A c bs at' true er::L)):=
 (yz W w L r A c bs at_ mo O hat hb hR).mono fun e w' h=>by
  rcases h with ⟨h0,A',c',he,hs⟩ | ⟨h0,hp,at',hs⟩
  ·
   have hl:=CS (bs:=bs) (i:=at_) (mo:=mo);obtain⟨s,a,hu,h1,h2⟩:=Kn h0;rw[hu]at he hs hl;exact .inl ⟨s,a,A',c',h1,h2,hl,he,hs⟩
  ·
   exact .inr ⟨wQ h0,hp,at',_,by omega,hs⟩
def Ig (k:Nat)(bs:List UInt8)(b8:Nat)(L:List As)(at' err:Int)(ok:Bool)(M:List As):Prop:=(ok=true∧err=0∧∃(v:Nat) (r0 r1 r2 f0 f1 f2:List UInt8) (n:Nat) (A0 A1 A2:Option Addr) (c0 c1 c2:Nat),at'=(n:Int)∧v=k∧bh 2 bs=some (v,r0)∧cy 9223372036854775807 r0=some (f0,r1)∧cy 9223372036854775807 r1=some (f1,r2)∧cy 9223372036854775807 r2=some (f2,bs.drop n)∧n≤bs.length∧f0.length≤bs.length∧f1.length≤bs.length∧f2.length≤bs.length∧M=a6 b8 (.cells #[.slice A0 f0.length c0,.slice A1 f1.length c1,.slice A2 f2.length c2] 307)::row 5 1 (.slice A0 (f0).length c0) (f0).length ((f0).map aj)::row 5 1 (.slice A1 (f1).length c1) (f1).length ((f1).map aj)::row 5 1 (.slice A2 (f2).length c2) (f2).length ((f2).map aj)::L)∨(ok=false∧err≠0∧(∀f,my k f bs)∧M=L)
theorem zr (W w:World)(L:List As)(r q p b3 b8 k:Nat)(A:Option Addr)(c:Nat)(bs:List UInt8)(O:Sat W w (hZ r A c bs 0 true 0::iN q r::hP p 0::a6 b8 (.cells #[.slice none 0 0,.slice none 0 0,.slice none 0 0] 307)::a6 b3 (.cells #[.int .i64 (k:Int)] 3)::L))(hk:k≤2)(hb:bs.length≤1000000000000)(hR:Rd W 1 (.slice A bs.length c) bs.length (bs.map aj)):Calls Tryz.prog 364 #[.pointer (some ⟨r,0,none⟩),.pointer (some ⟨b3,0,none⟩),.pointer (some ⟨b8,0,none⟩)] w fun e w'=>∃(at' err:Int) (ok:Bool) (M:List As),BN r ok e∧Sat W w' (hZ r A c bs at' true err::iN q r::hP p 0::M)∧Ig k bs b8 L at' err ok M:=by
 refine bS Tryz.func364 [0,1,2] ?_;have hL:bs.length≤9223372036854775807:=(by omega);refine uC 2 ?_;intro a I;refine jo [] (lB W (iN q r::hP p 0::a6 b8 (.cells #[.slice none 0 0,.slice none 0 0,.slice none 0 0] 307)::a6 b3 (.cells #[.int .i64 (k:Int)] 3)::L)) (by kernel_rfl) ?_;replace O:=O.drew;refine rX [0] I ?_;clear I a;refine cZ 2 [] rfl (by exact⟨[_],O⟩) (fun w hT=>have O:=hT.sat;(ld rfl)) ?_;intro a I;refine aE 1 (by kernel_rfl) ?_;refine GK I rfl rfl gY rfl (cb _ _ _ r A c bs 0 2 O (by omega) (by omega) (fun w h=>hR.sat h)) ?_;rintro e w (⟨v6,at6,hn6,ha6,hv6,hw6,rfl,hS'⟩ | ⟨hn6,⟨older,rfl,ho⟩,at',er,hne,hS'⟩)
 rotate_left 1
 ·refine .inr ⟨_,rfl,?_⟩;refine rE 2 I ?_;clear I a;intro a I;refine dj I ?_;clear O;have O:=hS';clear hS';exact⟨at',er,false,_,.inr ⟨rfl,.inl ⟨older,rfl,ho⟩⟩,((O.p 3).drop.p 3).drop,.inr ⟨rfl,hne,fun f=>Kz hk hL hn6,rfl⟩⟩
 clear O;have O:=hS';clear hS';refine .inl ⟨_,rfl,?_⟩;clear I a;intro a I;refine⟨.inr fun _=>(by exact⟨[_],O⟩),?_⟩;refine K.zh 3 I pk rfl rfl rfl rfl (by kernel_rfl) (by kernel_rfl) (by kernel_rfl) (fun w=>(aD (I.ev rfl) (I.ev rfl))) ?_ ?_
 ·clear I a;intro h8;intro a I;refine ah (by kernel_rfl) ?_ _;refine rE 4 I ?_;clear I a;intro a I;refine eu I rfl lO rfl (cW _ _ _ r A c bs at6 8 O (by omega) (by omega) (fun w h=>hR.sat h)) ?_;rintro e w ⟨⟨older,rfl,ho⟩,at',hS'⟩
  ·refine .inr ⟨_,rfl,?_⟩;refine rE 1 I ?_;clear I a;intro a I;refine dj I ?_;clear O;have O:=hS';clear hS';exact⟨at',8,false,_,.inr ⟨rfl,.inl ⟨older,rfl,ho⟩⟩,((O.p 3).drop.p 3).drop,.inr ⟨rfl,by decide,fun f=>Kx hk hL hn6 h8,rfl⟩⟩
 ·clear I a;intro h8;intro a I;refine ah (by kernel_rfl) ?_ _;refine rE 10 I ?_;clear I a;intro a I;refine wp_loop_rounds 4 ?_;refine aN ?_;refine rC 2 I ?_;clear I a;refine u1 17 (c5 (aq rfl rfl) (by omega)) ?_;intro a I;refine eu I rfl u4 rfl (fl _ _ _ r A c bs at6 9223372036854775807 O (by omega) (by omega) (fun w h=>hR.sat h)) ?_;rintro e w (⟨f0,af0,A0,c0,hf0,haf0,hlf0,rfl,hS'⟩ | ⟨hf0,⟨older,rfl,ho⟩,at',er,hne,hS'⟩)
  ·clear O;have O:=hS';clear hS';refine .inl ⟨_,rfl,?_⟩;clear I a;refine u1 0 (iA rfl rfl iP gG) ?_;intro a I;refine fS (cs':=[_,_,_]) I rfl rfl rB gG rfl (O.p 4) rfl rfl ?_;clear O;intro w O;refine rO 4 I ?_;clear I a;refine u1 2 (aw (ad rfl rfl) (show _=Value.int .i64 1 from rfl)) ?_;intro a I;refine aN ?_;refine rC 2 I ?_;clear I a;refine u1 17 (c5 (aq rfl rfl) (by omega)) ?_;intro a I;refine eu I rfl u4 rfl (fl _ _ _ r A c bs af0 9223372036854775807 (O.p 1) (by omega) (by omega) (fun w h=>hR.sat h)) ?_;rintro e w (⟨f1,af1,A1,c1,hf1,haf1,hlf1,rfl,hS'⟩ | ⟨hf1,⟨older,rfl,ho⟩,at',er,hne,hS'⟩)
   ·clear O;have O:=hS';clear hS';refine .inl ⟨_,rfl,?_⟩;clear I a;refine u1 0 (iA rfl rfl iP gG) ?_;intro a I;refine fS (cs':=[_,_,_]) I rfl rfl rB gG rfl (O.p 2) rfl rfl ?_;clear O;intro w O;refine rO 4 I ?_;clear I a;refine u1 2 (aw (ad rfl rfl) (show _=Value.int .i64 2 from rfl)) ?_;intro a I;refine aN ?_;refine rC 2 I ?_;clear I a;refine u1 17 (c5 (aq rfl rfl) (by omega)) ?_;intro a I;refine eu I rfl u4 rfl (fl _ _ _ r A c bs af1 9223372036854775807 (O.p 1) (by omega) (by omega) (fun w h=>hR.sat h)) ?_;rintro e w (⟨f2,af2,A2,c2,hf2,haf2,hlf2,rfl,hS'⟩ | ⟨hf2,⟨older,rfl,ho⟩,at',er,hne,hS'⟩)
    ·clear O;have O:=hS';clear hS';refine .inl ⟨_,rfl,?_⟩;clear I a;refine u1 0 (iA rfl rfl iP gG) ?_;intro a I;refine fS (cs':=[_,_,_]) I rfl rfl rB gG rfl (O.p 2) rfl rfl ?_;clear O;intro w O;refine rO 4 I ?_;clear I a;refine u1 2 (aw (ad rfl rfl) (show _=Value.int .i64 3 from rfl)) ?_;intro a I;refine aN ?_;refine rC 2 I ?_;clear I a;refine u1 8 (dz (aq rfl rfl) (by omega)) ?_;intro a I;refine jm (e:=.ret) ?_;refine mR I rfl  ?_;refine⟨(af2:Int),0,true,_,.inl ⟨rfl,rfl⟩,((((((((O.p 2).p 3).p 4).p 3).p 6).p 6).p 6).p 7).drop,.inl ⟨rfl,rfl,v6,_,_,_,f0,f1,f2,af2,A0,A1,A2,c0,c1,c2,rfl,by omega,hn6,hf0,hf1,hf2,haf2,hlf0,hlf1,hlf2,rfl⟩⟩
    ·refine .inr ⟨_,rfl,?_⟩;refine rE 4 I ?_;clear I a;intro a I;refine dj I ?_;clear O;have O:=hS';clear hS';exact⟨at',er,false,_,.inr ⟨rfl,.inl ⟨older,rfl,ho⟩⟩,(((((((O.p 5).p 5).p 2).p 6).p 6).p 6).p 6).drop.drop.drop.drop,.inr ⟨rfl,hne,fun f=>JC hk hL hn6 hf0 hf1 hf2,rfl⟩⟩
   ·refine .inr ⟨_,rfl,?_⟩;refine rE 4 I ?_;clear I a;intro a I;refine dj I ?_;clear O;have O:=hS';clear hS';exact⟨at',er,false,_,.inr ⟨rfl,.inl ⟨older,rfl,ho⟩⟩,((((((O.p 4).p 4).p 2).p 5).p 5).p 5).drop.drop.drop,.inr ⟨rfl,hne,fun f=>JS hk hL hn6 hf0 hf1,rfl⟩⟩
  ·refine .inr ⟨_,rfl,?_⟩;refine rE 4 I ?_;clear I a;intro a I;refine dj I ?_;clear O;have O:=hS';clear hS';exact⟨at',er,false,_,.inr ⟨rfl,.inl ⟨older,rfl,ho⟩⟩,((O.p 3).drop.p 3).drop,.inr ⟨rfl,hne,fun f=>Ke hk hL hn6 hf0,rfl⟩⟩
theorem ur (W:World)(k:Nat)(A:Option Addr)(c:Nat)(bs:List UInt8)(hk:k≤2)(hb:bs.length≤16777216)(hR:Rd W 1 (.slice A bs.length c) bs.length (bs.map aj)):Calls Tryz.prog 350 #[.slice A (bs).length c,.int .i64 (k:Int)] W fun e w'=>(∃s:SL,bs=cC k s.d∧aH s.d=true∧kQ s∧e=.returned (.tuple #[.slice s.e.a s.e.es.length s.e.c,.agg #[.slice s.p.va s.p.d.vec.length s.p.vc,.slice s.p.ca s.p.d.ab.length s.p.cc],.slice s.r.a s.r.rs.length s.r.c,.bool true])∧Sat W w' [fJ 216 s.e.a s.e.c s.e.es,cq 3 s.p.va s.p.vc s.p.d.vec,bp 219 s.p.ca s.p.cc s.p.d.ab,s.r.ch 206 3 219])∨((∀f:iR→Bool,(∀d,f d=true→aH d=true)→my k f bs)∧∃(A1:Option Addr) (n1 c1:Nat) (z:PL) (A3:Option Addr) (n3 c3:Nat),e=.returned (.tuple #[.slice A1 n1 c1,.agg #[.slice z.va z.d.vec.length z.vc,.slice z.ca z.d.ab.length z.cc],.slice A3 n3 c3,.bool false])∧Sat W w' []):=by
 refine bS Tryz.func350 [0,1] ?_;have O:=Sat.start W;have hL:bs.length≤9223372036854775807:=(by omega);refine uC 2 ?_;refine uB rfl O ?_;clear O;intro b3 w O;refine uO 1 ?_;refine uN cY O ?_;clear O;intro b5 w O;refine uO 6 ?_;refine uN G3 O ?_;clear O;intro b8 w O;refine uO 5 ?_;intro a I;refine o1 0 I (qY (I.mW rfl)) ?_;clear I a;refine uF rfl (jH _ _ _ A c bs (fun _ at' err ok M=>Ig k bs b8 [a6 b5 (.cells #[.slice none 0 0,.slice none 0 0] 63)] at' err ok M) 364 [.pointer (some ⟨b3,0,none⟩),.pointer (some ⟨b8,0,none⟩)] ((((O.p 1).p 2).p 2)) (by omega) IB (fun w r q p O=>zr _ _ _ r q p b3 b8 k A c bs O hk (by omega) hR)) ?_;rintro e w ⟨r9,q9,p9,at',err,ok,M,rfl,O,(⟨rfl,rfl,v6,r0,r1,r2,f0,f1,f2,n,A0,A1,A2,c0,c1,c2,rfl,hv,hn6,hf0,hf1,hf2,hnl,hl0,hl1,hl2,rfl⟩ | ⟨rfl,hne,hno,rfl⟩)⟩
 ·replace O:=O.drop.drop.drop;refine uO 7 ?_;refine aJ 0 0 (aD rfl rfl) ?_ ?_
  ·intro h20;refine uO 5 ?_;intro a I;refine o1 1 I (ar I rfl l5) ?_;clear I a;refine uW (vs:=[_,_]) (cs':=[_,_]) rfl rfl aO (O.p 4) ?_;clear O;intro w O;refine uO 6 ?_;intro a I;refine ej I rfl (aQ I rfl) (br (cs:=[_,_]) I rfl cS aO (by exact O.ao (xs:=[_,_]) rfl)) (aQ I rfl) (aQ I rfl) ?_;rw[mr rfl]at h20;refine .inr ⟨(fun f hff=>vd hk hL hn6 hf0 hf1 hf2 fun d hd e3 e0 e1 e2=>(by have h9:=congrArg List.length e3;rw[List.length_drop]at h9;simp at h9 h20;omega)),_,_,_,⟨none,0,none,0,⟨[],[]⟩⟩,_,_,_,rfl,O.nil⟩
  ·intro h20;intro a I
   try (exfalso;rw[kR rfl,if_pos hne]at h20;exact h20 hne)
   refine rO 7 I ?_;clear I a;refine u1 0 (iA rfl rfl iP gG) ?_;refine u1 0 (ld rfl) ?_;refine uF rfl (sq _ A0 c0 f0 (by omega) (by exact (O.p 1).rd)) ?_;rintro e w (⟨Ae,ce,xs,hq0,hg0,HQ,rfl,hT⟩ | ⟨hno0,rfl,hT⟩)
   ·replace O:=O.aM hT;clear hT;refine uO 1 ?_;refine u1 0 (ai rfl rfl) ?_;refine u1 6 (ai rfl rfl) ?_;refine u1 0 (iA rfl rfl iP gG) ?_;refine u1 0 (ld rfl) ?_;refine uF rfl (pS _ A1 c1 f1 (by omega) (by exact (O.p 3).rd)) ?_;rintro e w (⟨z,hq1,hg1,hb1,rfl,hT⟩ | ⟨hno1,rfl,hT⟩)
    ·replace O:Sat _ _ (_::_::_):=O.ag hT;clear hT;refine uO 1 ?_;refine u1 0 (ai rfl rfl) ?_;refine u1 0 (ai rfl rfl) ?_;refine uN cY O ?_;clear O;intro b12 w O;refine uW (vs:=[_,_]) (cs':=[_,_]) rfl rfl aO O ?_;clear O;intro w O;refine uO 3 ?_;intro a I;replace I:=I.kp [4,5,6,7,8,10,11,12,13] rfl;refine rC 2 I ?_;clear I a;refine u1 0 (iA rfl rfl iP gG) ?_;refine u1 0 (ld rfl) ?_;refine uF rfl (gm _ A2 c2 f2 (by omega) (by exact (O.p 7).rd)) ?_;rintro e w (⟨R,hq2,hg2,hb2,rfl,hT⟩ | ⟨hno2,rfl,hT⟩)
     ·replace O:=O.aM hT;clear hT;refine uO 1 ?_;refine u1 0 (ai rfl rfl) ?_;refine u1 5 (ai rfl rfl) ?_;intro a I;refine bf [14] O (by kernel_rfl) ?_;replace O:=O.drew;refine rX [0] I ?_;clear I a;refine cZ 1 [2,3] rfl (by exact⟨[],O⟩) (fun w hT=>have O:=hT.sat;(lS (cs:=[_,_]) rfl)) ?_;refine bF 4 [5,6] rfl (fun w=>(c5 (aU rfl rfl) (by omega))) ?_;refine bF 7 [8,9,10] rfl (fun w=>(c5 (aU rfl rfl) (by omega))) ?_;refine bF 11 [12,13] rfl (fun w=>(c5 (aU rfl rfl) (by omega))) ?_;intro a I;refine aE 14 (by kernel_rfl) ?_;refine cH (vs:=[_,_]) (cs':=[_,_]) I rfl rfl rfl aO (by simp[Value.oneCell']) (O.p 9) rfl rfl ?_;clear O;intro w O;refine⟨.inl rfl,?_⟩;refine rX [15,16] I ?_;clear I a;intro a I;refine ah (by kernel_rfl) ?_ _;refine rE 2 I ?_;clear I a;intro a I
      refine ej I rfl (aQ I rfl) (br (cs:=[_,_]) I rfl cS aO (by exact O.ao (xs:=[_,_]) rfl)) (aQ I rfl) (aQ I rfl) ?_;rw[mr rfl]at h20;have hn9:bs.drop n=[]:=List.drop_of_length_le (by simp at h20;omega);rw[hn9]at hf2;have hst:=GW (d:=⟨xs,z.d,R.d⟩) hn6 hv hf0 hf1 hf2 hq0 hq1 hq2 (by show z.d.ab.length≤_;omega);have hz16:=((iK (by omega)).1 hq1).2.len;have hbr:(dO R.d).length≤16777216:=by have:=(mB.1 hq2).1;rw[List.append_nil]at this;rw[←this];omega
      refine .inl ⟨⟨⟨Ae,ce,xs⟩,z,R⟩,hst,zD hg0 hg1 hg2,⟨by show xs.length≤_;omega,by show z.d.vec.length≤_;omega,by show z.d.ab.length≤_;omega,fun r hr=>by have:=hb2.2 r hr;omega,?_⟩,rfl,?_⟩
      ·have:=qL R.d;rw[show R.d.map bK.bx=R.rs.map fun r=>r.p.d from kS R.rs]at this;show dm (R.rs.map fun r=>r.p.d)≤_;omega
      ·exact y7 ((((O.p 1).p 4).p 4).p 5)
     ·replace O:Sat _ _ _:=O.ag hT;clear hT;refine uO 1 ?_;refine u1 0 (ai rfl rfl) ?_;refine u1 5 (ai rfl rfl) ?_;intro a I;refine bf [14] O (by kernel_rfl) ?_;replace O:=O.drew;refine rX [0] I ?_;clear I a;refine cZ 1 [2,3] rfl (by exact⟨[],O⟩) (fun w hT=>have O:=hT.sat;(lS (cs:=[_,_]) rfl)) ?_;refine bF 4 [5,6] rfl (fun w=>(c5 (aU rfl rfl) (by omega))) ?_;refine bF 7 [8,9,10] rfl (fun w=>(c5 (aU rfl rfl) (by omega))) ?_;refine bF 11 [12,13] rfl (fun w=>(dz (aU rfl rfl) (by omega))) ?_;intro a I;refine aE 14 (by kernel_rfl) ?_;refine cH (vs:=[_,_]) (cs':=[_,_]) I rfl rfl rfl aO (by simp[Value.oneCell']) (O.p 8) rfl rfl ?_;clear O;intro w O;refine⟨.inl rfl,?_⟩;refine rX [15,16] I ?_;clear I a;intro a I;refine ah (by kernel_rfl) ?_ _;refine rE 2 I ?_;clear I a;intro a I
      refine ej I rfl (aQ I rfl) (br (cs:=[_,_]) I rfl cS aO (by exact O.ao (xs:=[_,_]) rfl)) (aQ I rfl) (aQ I rfl) ?_;refine .inr ⟨(fun f hff=>vd hk hL hn6 hf0 hf1 hf2 fun d hd e3 e0 e1 e2=>(by subst e2;have hh:=hno2 d.mw (mD (aA (hff d hd)).2.2 (by omega));rw[(aA (hff d hd)).2.2]at hh;cases hh)),_,_,_,z,_,_,_,rfl,O.nil⟩
    ·replace O:Sat _ _ _:=O.ag hT;clear hT;refine uO 1 ?_;refine u1 0 (ai rfl rfl) ?_;refine u1 0 (ai rfl rfl) ?_;refine uN cY O ?_;clear O;intro b12 w O;refine uW (vs:=[_,_]) (cs':=[_,_]) rfl rfl aO O ?_;clear O;intro w O;refine uO 3 ?_;intro a I;replace I:=I.kp [4,5,6,7,8,10,11,12,13] rfl;refine rC 2 I ?_;clear I a;refine u1 0 (iA rfl rfl iP gG) ?_;refine u1 0 (ld rfl) ?_;refine uF rfl (gm _ A2 c2 f2 (by omega) (by exact (O.p 5).rd)) ?_;rintro e w (⟨R,hq2,hg2,hb2,rfl,hT⟩ | ⟨hno2,rfl,hT⟩)
     ·replace O:=O.aM hT;clear hT;refine uO 1 ?_;refine u1 0 (ai rfl rfl) ?_;refine u1 5 (ai rfl rfl) ?_;intro a I;refine bf [14] O (by kernel_rfl) ?_;replace O:=O.drew;refine rX [0] I ?_;clear I a;refine cZ 1 [2,3] rfl (by exact⟨[],O⟩) (fun w hT=>have O:=hT.sat;(lS (cs:=[_,_]) rfl)) ?_;refine bF 4 [5,6] rfl (fun w=>(c5 (aU rfl rfl) (by omega))) ?_;refine bF 7 [8,9,10,11,12,13] rfl (fun w=>(dz (aU rfl rfl) (by omega))) ?_;intro a I;refine aE 14 (by kernel_rfl) ?_;refine cH (vs:=[_,_]) (cs':=[_,_]) I rfl rfl rfl aO (by simp[Value.oneCell']) (O.p 7) rfl rfl ?_;clear O;intro w O;refine⟨.inl rfl,?_⟩;refine rX [15,16] I ?_;clear I a;intro a I;refine ah (by kernel_rfl) ?_ _;refine rE 2 I ?_;clear I a;intro a I
      refine ej I rfl (aQ I rfl) (br (cs:=[_,_]) I rfl cS aO (by exact O.ao (xs:=[_,_]) rfl)) (aQ I rfl) (aQ I rfl) ?_;refine .inr ⟨(fun f hff=>vd hk hL hn6 hf0 hf1 hf2 fun d hd e3 e0 e1 e2=>(by subst e1;have hh:=hno1 d.bx (iE (aA (hff d hd)).2.1 (iH hl1));rw[(aA (hff d hd)).2.1]at hh;cases hh)),_,_,_,⟨none,0,none,0,⟨[],[]⟩⟩,_,_,_,rfl,O.nil⟩
     ·replace O:Sat _ _ _:=O.ag hT;clear hT;refine uO 1 ?_;refine u1 0 (ai rfl rfl) ?_;refine u1 5 (ai rfl rfl) ?_;intro a I;refine bf [14] O (by kernel_rfl) ?_;replace O:=O.drew;refine rX [0] I ?_;clear I a;refine cZ 1 [2,3] rfl (by exact⟨[],O⟩) (fun w hT=>have O:=hT.sat;(lS (cs:=[_,_]) rfl)) ?_;refine bF 4 [5,6] rfl (fun w=>(c5 (aU rfl rfl) (by omega))) ?_;refine bF 7 [8,9,10,11,12,13] rfl (fun w=>(dz (aU rfl rfl) (by omega))) ?_;intro a I;refine aE 14 (by kernel_rfl) ?_;refine cH (vs:=[_,_]) (cs':=[_,_]) I rfl rfl rfl aO (by simp[Value.oneCell']) (O.p 6) rfl rfl ?_;clear O;intro w O;refine⟨.inl rfl,?_⟩;refine rX [15,16] I ?_;clear I a;intro a I;refine ah (by kernel_rfl) ?_ _;refine rE 2 I ?_;clear I a;intro a I
      refine ej I rfl (aQ I rfl) (br (cs:=[_,_]) I rfl cS aO (by exact O.ao (xs:=[_,_]) rfl)) (aQ I rfl) (aQ I rfl) ?_;refine .inr ⟨(fun f hff=>vd hk hL hn6 hf0 hf1 hf2 fun d hd e3 e0 e1 e2=>(by subst e1;have hh:=hno1 d.bx (iE (aA (hff d hd)).2.1 (iH hl1));rw[(aA (hff d hd)).2.1]at hh;cases hh)),_,_,_,⟨none,0,none,0,⟨[],[]⟩⟩,_,_,_,rfl,O.nil⟩
   ·replace O:Sat _ _ _:=O.ag hT;clear hT;refine uO 1 ?_;refine u1 0 (ai rfl rfl) ?_;refine u1 6 (ai rfl rfl) ?_;refine u1 0 (iA rfl rfl iP gG) ?_;refine u1 0 (ld rfl) ?_;refine uF rfl (pS _ A1 c1 f1 (by omega) (by exact (O.p 2).rd)) ?_;rintro e w (⟨z,hq1,hg1,hb1,rfl,hT⟩ | ⟨hno1,rfl,hT⟩)
    ·replace O:Sat _ _ (_::_::_):=O.ag hT;clear hT;refine uO 1 ?_;refine u1 0 (ai rfl rfl) ?_;refine u1 0 (ai rfl rfl) ?_;refine uN cY O ?_;clear O;intro b12 w O;refine uW (vs:=[_,_]) (cs':=[_,_]) rfl rfl aO O ?_;clear O;intro w O;refine uO 3 ?_;intro a I;replace I:=I.kp [4,5,6,7,8,10,11,12,13] rfl;refine rC 2 I ?_;clear I a;refine u1 0 (iA rfl rfl iP gG) ?_;refine u1 0 (ld rfl) ?_;refine uF rfl (gm _ A2 c2 f2 (by omega) (by exact (O.p 6).rd)) ?_;rintro e w (⟨R,hq2,hg2,hb2,rfl,hT⟩ | ⟨hno2,rfl,hT⟩)
     ·replace O:=O.aM hT;clear hT;refine uO 1 ?_;refine u1 0 (ai rfl rfl) ?_;refine u1 5 (ai rfl rfl) ?_;intro a I;refine bf [14] O (by kernel_rfl) ?_;replace O:=O.drew;refine rX [0] I ?_;clear I a;refine cZ 1 [2,3] rfl (by exact⟨[],O⟩) (fun w hT=>have O:=hT.sat;(lS (cs:=[_,_]) rfl)) ?_;refine bF 4 [5,6,7,8,9,10,11,12,13] rfl (fun w=>(dz (aU rfl rfl) (by omega))) ?_;intro a I;refine aE 14 (by kernel_rfl) ?_;refine cH (vs:=[_,_]) (cs':=[_,_]) I rfl rfl rfl aO (by simp[Value.oneCell']) (O.p 8) rfl rfl ?_;clear O;intro w O;refine⟨.inl rfl,?_⟩;refine rX [15,16] I ?_;clear I a;intro a I;refine ah (by kernel_rfl) ?_ _;refine rE 2 I ?_;clear I a;intro a I;refine ej I rfl (aQ I rfl) (br (cs:=[_,_]) I rfl cS aO (by exact O.ao (xs:=[_,_]) rfl)) (aQ I rfl) (aQ I rfl) ?_
      refine .inr ⟨(fun f hff=>vd hk hL hn6 hf0 hf1 hf2 fun d hd e3 e0 e1 e2=>(by subst e0;have hh:=hno0 d.jn (ek (aA (hff d hd)).1 (ed hl0));rw[(aA (hff d hd)).1]at hh;cases hh)),_,_,_,z,_,_,_,rfl,O.nil⟩
     ·replace O:Sat _ _ _:=O.ag hT;clear hT;refine uO 1 ?_;refine u1 0 (ai rfl rfl) ?_;refine u1 5 (ai rfl rfl) ?_;intro a I;refine bf [14] O (by kernel_rfl) ?_;replace O:=O.drew;refine rX [0] I ?_;clear I a;refine cZ 1 [2,3] rfl (by exact⟨[],O⟩) (fun w hT=>have O:=hT.sat;(lS (cs:=[_,_]) rfl)) ?_;refine bF 4 [5,6,7,8,9,10,11,12,13] rfl (fun w=>(dz (aU rfl rfl) (by omega))) ?_;intro a I;refine aE 14 (by kernel_rfl) ?_;refine cH (vs:=[_,_]) (cs':=[_,_]) I rfl rfl rfl aO (by simp[Value.oneCell']) (O.p 7) rfl rfl ?_;clear O;intro w O;refine⟨.inl rfl,?_⟩;refine rX [15,16] I ?_;clear I a;intro a I;refine ah (by kernel_rfl) ?_ _;refine rE 2 I ?_;clear I a;intro a I;refine ej I rfl (aQ I rfl) (br (cs:=[_,_]) I rfl cS aO (by exact O.ao (xs:=[_,_]) rfl)) (aQ I rfl) (aQ I rfl) ?_
      refine .inr ⟨(fun f hff=>vd hk hL hn6 hf0 hf1 hf2 fun d hd e3 e0 e1 e2=>(by subst e0;have hh:=hno0 d.jn (ek (aA (hff d hd)).1 (ed hl0));rw[(aA (hff d hd)).1]at hh;cases hh)),_,_,_,z,_,_,_,rfl,O.nil⟩
    ·replace O:Sat _ _ _:=O.ag hT;clear hT;refine uO 1 ?_;refine u1 0 (ai rfl rfl) ?_;refine u1 0 (ai rfl rfl) ?_;refine uN cY O ?_;clear O;intro b12 w O;refine uW (vs:=[_,_]) (cs':=[_,_]) rfl rfl aO O ?_;clear O;intro w O;refine uO 3 ?_;intro a I;replace I:=I.kp [4,5,6,7,8,10,11,12,13] rfl;refine rC 2 I ?_;clear I a;refine u1 0 (iA rfl rfl iP gG) ?_;refine u1 0 (ld rfl) ?_;refine uF rfl (gm _ A2 c2 f2 (by omega) (by exact (O.p 4).rd)) ?_;rintro e w (⟨R,hq2,hg2,hb2,rfl,hT⟩ | ⟨hno2,rfl,hT⟩)
     ·replace O:=O.aM hT;clear hT;refine uO 1 ?_;refine u1 0 (ai rfl rfl) ?_;refine u1 5 (ai rfl rfl) ?_;intro a I;refine bf [14] O (by kernel_rfl) ?_;replace O:=O.drew;refine rX [0] I ?_;clear I a;refine cZ 1 [2,3] rfl (by exact⟨[],O⟩) (fun w hT=>have O:=hT.sat;(lS (cs:=[_,_]) rfl)) ?_;refine bF 4 [5,6,7,8,9,10,11,12,13] rfl (fun w=>(dz (aU rfl rfl) (by omega))) ?_;intro a I;refine aE 14 (by kernel_rfl) ?_;refine cH (vs:=[_,_]) (cs':=[_,_]) I rfl rfl rfl aO (by simp[Value.oneCell']) (O.p 6) rfl rfl ?_;clear O;intro w O;refine⟨.inl rfl,?_⟩;refine rX [15,16] I ?_;clear I a;intro a I;refine ah (by kernel_rfl) ?_ _;refine rE 2 I ?_;clear I a;intro a I;refine ej I rfl (aQ I rfl) (br (cs:=[_,_]) I rfl cS aO (by exact O.ao (xs:=[_,_]) rfl)) (aQ I rfl) (aQ I rfl) ?_
      refine .inr ⟨(fun f hff=>vd hk hL hn6 hf0 hf1 hf2 fun d hd e3 e0 e1 e2=>(by subst e0;have hh:=hno0 d.jn (ek (aA (hff d hd)).1 (ed hl0));rw[(aA (hff d hd)).1]at hh;cases hh)),_,_,_,⟨none,0,none,0,⟨[],[]⟩⟩,_,_,_,rfl,O.nil⟩
     ·replace O:Sat _ _ _:=O.ag hT;clear hT;refine uO 1 ?_;refine u1 0 (ai rfl rfl) ?_;refine u1 5 (ai rfl rfl) ?_;intro a I;refine bf [14] O (by kernel_rfl) ?_;replace O:=O.drew;refine rX [0] I ?_;clear I a;refine cZ 1 [2,3] rfl (by exact⟨[],O⟩) (fun w hT=>have O:=hT.sat;(lS (cs:=[_,_]) rfl)) ?_;refine bF 4 [5,6,7,8,9,10,11,12,13] rfl (fun w=>(dz (aU rfl rfl) (by omega))) ?_;intro a I;refine aE 14 (by kernel_rfl) ?_;refine cH (vs:=[_,_]) (cs':=[_,_]) I rfl rfl rfl aO (by simp[Value.oneCell']) (O.p 5) rfl rfl ?_;clear O;intro w O;refine⟨.inl rfl,?_⟩;refine rX [15,16] I ?_;clear I a;intro a I;refine ah (by kernel_rfl) ?_ _;refine rE 2 I ?_;clear I a;intro a I;refine ej I rfl (aQ I rfl) (br (cs:=[_,_]) I rfl cS aO (by exact O.ao (xs:=[_,_]) rfl)) (aQ I rfl) (aQ I rfl) ?_
      refine .inr ⟨(fun f hff=>vd hk hL hn6 hf0 hf1 hf2 fun d hd e3 e0 e1 e2=>(by subst e0;have hh:=hno0 d.jn (ek (aA (hff d hd)).1 (ed hl0));rw[(aA (hff d hd)).1]at hh;cases hh)),_,_,_,⟨none,0,none,0,⟨[],[]⟩⟩,_,_,_,rfl,O.nil⟩
 ·replace O:=O.drop.drop.drop;refine uO 7 ?_;refine aJ 0 0 (aD rfl rfl) ?_ ?_
  ·intro h20;refine uO 5 ?_;intro a I;refine o1 1 I (ar I rfl l5) ?_;clear I a;refine uW (vs:=[_,_]) (cs':=[_,_]) rfl rfl aO O ?_;clear O;intro w O;refine uO 6 ?_;intro a I;refine ej I rfl (aQ I rfl) (br (cs:=[_,_]) I rfl cS aO (by exact O.ao (xs:=[_,_]) rfl)) (aQ I rfl) (aQ I rfl) ?_;refine .inr ⟨(fun f _=>hno f),_,_,_,⟨none,0,none,0,⟨[],[]⟩⟩,_,_,_,rfl,O.nil⟩
  ·intro h20;intro a I
   try (exfalso;rw[kR rfl,if_pos hne]at h20;exact h20 hne)
theorem SL.sD {W w:World}{L:List As}{s:SL}{ee ei es er:Nat}(h:Sat W w (fJ ee s.e.a s.e.c s.e.es::cq ei s.p.va s.p.vc s.p.d.vec::bp es s.p.ca s.p.cc s.p.d.ab::s.r.ch er ei es::L)):s.ok w:=
 ⟨h.rd,⟨(h.p 1).rd,(h.p 2).rd⟩,jv.sD (h.p 3)⟩
theorem ox {k:Nat}{s d:iR}(hk:k≤2)(hs:aH s=true)(hd:aH d=true)(hL:(cC k s).length≤9223372036854775807)(h:cC k s=cC k d):s=d:=by
 obtain⟨r0,r1,r2,a0,a1,a2,a3⟩:=lL (d:=s) hk hL;rw[h]at hL;obtain⟨q0,q1,q2,b0,b1,b2,b3⟩:=lL (d:=d) hk hL;have hl:(cC k d).length=(aV k).length+((aV (fb d.jn).length).length+(fb d.jn).length+((aV (eH d.bx).length).length+(eH d.bx).length+((aV (dO d.mw).length).length+(dO d.mw).length))):=by unfold cC fr;simp only[List.length_append]
 rw[h,b0]at a0;cases a0;rw[b1]at a1;injection a1 with a1;obtain⟨e1,rfl⟩:=Prod.mk.inj a1
 rw[b2]at a2;injection a2 with a2;obtain⟨e2,rfl⟩:=Prod.mk.inj a2
 rw[b3]at a3;injection a3 with a3;obtain⟨e3,_⟩:=Prod.mk.inj a3
 obtain⟨s1,s2,s3⟩:=aA hs;obtain⟨d1,d2,d3⟩:=aA hd;have f1:=ek s1 (ed (n:=9223372036854775807) (by rw[←e1];omega));have f2:=iE s2 (iH (n:=9223372036854775807) (by rw[←e2];omega));have f3:=mD s3 (by rw[←e3];omega);have g1:=ek d1 (ed (n:=9223372036854775807) (by omega));have g2:=iE d2 (iH (n:=9223372036854775807) (by omega));have g3:=mD d3 (by omega);rw[←e1,g1]at f1;rw[←e2,g2]at f2;rw[←e3,g3]at f3
 injection f1 with f1
 injection f2 with f2
 injection f3 with f3
 exact EJ (Prod.mk.inj f1).1.symm (Prod.mk.inj f2).1.symm (Prod.mk.inj f3).1.symm
theorem vh (W:World)(A:Option Addr)(c:Nat)(bs:List UInt8)(hb:bs.length≤16777216)(hR:Rd W 1 (.slice A bs.length c) bs.length (bs.map aj)):Calls Tryz.prog 430 #[.slice A (bs).length c] W fun e w'=>(∃s:SL,bs=cC 1 s.d∧aH s.d=true∧kQ s∧e=.returned (.tuple #[.agg #[.slice s.e.a s.e.es.length s.e.c,.slice s.p.va s.p.d.vec.length s.p.vc,.slice s.p.ca s.p.d.ab.length s.p.cc,.slice s.r.a s.r.rs.length s.r.c],.int .i64 0])∧Sat W w' [fJ 216 s.e.a s.e.c s.e.es,cq 3 s.p.va s.p.vc s.p.d.vec,bp 219 s.p.ca s.p.cc s.p.d.ab,s.r.ch 206 3 219])∨(my 1 aH bs∧e=.returned (.tuple #[.agg #[.slice none 0 0,.slice none 0 0,.slice none 0 0,.slice none 0 0],.int .i64 8])∧Sat W w' []):=by
 refine bS Tryz.func430 [0] ?_;have O:=Sat.start W;refine uC 2 ?_;refine uN qg O ?_;clear O;intro b2 w O;refine uO 6 ?_;refine uF rfl (ur _ 1 A c bs (by decide) hb (hR.sat O)) ?_;rintro e w (⟨s,hst,hfb,hsm,rfl,hT⟩ | ⟨hno,A1,n1,c1,z,A3,n3,c3,rfl,hT⟩)
 ·replace O:Sat _ _ (_::_::_::_::_):=O.ag hT;clear hT;refine uO 1 ?_;refine u1 0 (ai rfl rfl) ?_;refine u1 0 (ai rfl rfl) ?_;refine u1 0 (ai rfl rfl) ?_;refine j4 0 0 (ai rfl rfl) ?_ ?_
  ·intro h15;intro a I;simp only at h15;refine goN I rfl cY O ?_;clear I a O;intro b5 w O;refine uO 1 ?_;refine uW (vs:=[_,_]) (cs':=[_,_]) rfl rfl aO O ?_;clear O;intro w O;refine uO 7 ?_;refine u1 1 (lS (cs:=[_,_]) rfl) ?_;intro a I;refine o1 0 I (ar I rfl jE) ?_;clear I a;refine uN qg O ?_;clear O;intro b8 w O;refine uW (vs:=[_,_,_,_]) (cs':=[_,_,_,_]) rfl rfl gK O ?_;clear O;intro w O;refine uO 6 ?_;refine u1 1 (aB rfl) ?_;refine u1 0 (lS (cs:=[_,_,_,_]) rfl) ?_;refine iV rfl (yl _ s (SL.sD ((((O.p 5).p 5).p 5).p 5)) hsm) ?_;rintro e w ⟨rfl,hT⟩;replace O:Sat _ _ _:=O.ag hT;clear hT;cases h24:aH s.d
   ·rw[if_neg (by decide)];refine aJ 0 0 (aD rfl rfl) ?_ ?_
    ·intro h25;refine uO 6 ?_;intro a I;refine o1 0 I (ar I rfl CP) ?_;clear I a;refine uW (vs:=[_,_,_,_]) (cs':=[_,_,_,_]) rfl rfl gK (O.p 6) ?_;clear O;intro w O;refine uO 3 ?_;intro a I;replace I:=I.kp [2,3,8] rfl;refine rC 2 I ?_;clear I a;intro a I;refine bO I rfl (br (cs:=[_,_,_,_]) I rfl vw gK (by exact O.ao (xs:=[_,_,_,_]) rfl)) (aQ I rfl) ?_;refine .inr ⟨fun d hd e=>?_,rfl,O.nil⟩;have:=ox (by decide) hfb hd (by rw[←hst];omega) (hst.symm.trans e);rw[this,hd]at h24;cases h24
    ·intro h25;intro a I;contradiction
   ·rw[if_pos rfl];refine aJ 0 0 (aD rfl rfl) ?_ ?_
    ·intro h25;intro a I;contradiction
    ·intro h25;refine uO 6 ?_;intro a I;replace I:=I.kp [2,3,8] rfl;refine rC 2 I ?_;clear I a;refine u1 0 (lS (cs:=[_,_,_,_]) rfl) ?_;refine uW (vs:=[_,_,_,_]) (cs':=[_,_,_,_]) rfl rfl gK (O.p 6) ?_;clear O;intro w O;refine uO 4 ?_;intro a I;refine bO I rfl (br (cs:=[_,_,_,_]) I rfl vw gK (by exact O.ao (xs:=[_,_,_,_]) rfl)) (aQ I rfl) ?_;exact .inl ⟨s,hst,h24,hsm,rfl,y7 ((((O.p 6).p 6).p 6).p 6)⟩
  ·intro h15;intro a I;contradiction
 ·replace O:Sat _ _ _:=O.ag hT;clear hT;refine uO 1 ?_;refine u1 0 (ai rfl rfl) ?_;refine u1 0 (ai rfl rfl) ?_;refine u1 0 (ai rfl rfl) ?_;refine j4 0 0 (ai rfl rfl) ?_ ?_
  ·intro h15;intro a I;contradiction
  ·intro h15;intro a I;simp only at h15;refine goN I rfl cY O ?_;clear I a O;intro b5 w O;refine uO 1 ?_;refine uW (vs:=[_,_]) (cs':=[_,_]) rfl rfl aO O ?_;clear O;intro w O;refine uO 7 ?_;refine u1 1 (lS (cs:=[_,_]) rfl) ?_;intro a I;refine o1 0 I (ar I rfl jE) ?_;clear I a;refine uN qg O ?_;clear O;intro b8 w O;refine uW (vs:=[_,_,_,_]) (cs':=[_,_,_,_]) rfl rfl gK O ?_;clear O;intro w O;refine uO 6 ?_;refine u1 10 (aB rfl) ?_;intro a I;refine o1 0 I (ar I rfl CP) ?_;clear I a;refine uW (vs:=[_,_,_,_]) (cs':=[_,_,_,_]) rfl rfl gK (O.p 2) ?_;clear O;intro w O;refine uO 3 ?_;intro a I;replace I:=I.kp [2,3,8] rfl;refine rC 2 I ?_;clear I a;intro a I;refine bO I rfl (br (cs:=[_,_,_,_]) I rfl vw gK (by exact O.ao (xs:=[_,_,_,_]) rfl)) (aQ I rfl) ?_
   exact .inr ⟨hno aH (fun d hd=>hd),rfl,O.nil⟩
theorem wi (W:World)(A:Option Addr)(c:Nat)(bs:List UInt8)(hb:bs.length≤16777216)(hR:Rd W 1 (.slice A bs.length c) bs.length (bs.map aj)):Calls Tryz.prog 339 #[.slice A (bs).length c] W fun e w'=>(∃s:SL,bs=cC 2 s.d∧bD s.d=true∧kQ s∧e=.returned (.tuple #[.agg #[.slice s.e.a s.e.es.length s.e.c,.slice s.p.va s.p.d.vec.length s.p.vc,.slice s.p.ca s.p.d.ab.length s.p.cc,.slice s.r.a s.r.rs.length s.r.c],.int .i64 0])∧Sat W w' [fJ 216 s.e.a s.e.c s.e.es,cq 3 s.p.va s.p.vc s.p.d.vec,bp 219 s.p.ca s.p.cc s.p.d.ab,s.r.ch 206 3 219])∨(my 2 bD bs∧e=.returned (.tuple #[.agg #[.slice none 0 0,.slice none 0 0,.slice none 0 0,.slice none 0 0],.int .i64 8])∧Sat W w' []):=by
 refine bS Tryz.func339 [0] ?_;have O:=Sat.start W;refine uC 2 ?_;refine uN sc O ?_;clear O;intro b2 w O;refine uO 6 ?_;refine uF rfl (ur _ 2 A c bs (by decide) hb (hR.sat O)) ?_;rintro e w (⟨s,hst,hfb,hsm,rfl,hT⟩ | ⟨hno,A1,n1,c1,z,A3,n3,c3,rfl,hT⟩)
 ·replace O:Sat _ _ (_::_::_::_::_):=O.ag hT;clear hT;refine uO 1 ?_;refine u1 0 (ai rfl rfl) ?_;refine u1 0 (ai rfl rfl) ?_;refine u1 0 (ai rfl rfl) ?_;refine j4 0 0 (ai rfl rfl) ?_ ?_
  ·intro h15;intro a I;simp only at h15;refine goN I rfl cY O ?_;clear I a O;intro b5 w O;refine uO 1 ?_;refine uW (vs:=[_,_]) (cs':=[_,_]) rfl rfl aO O ?_;clear O;intro w O;refine uO 7 ?_;refine u1 1 (lS (cs:=[_,_]) rfl) ?_;intro a I;refine o1 0 I (ar I rfl nf) ?_;clear I a;refine uN sc O ?_;clear O;intro b8 w O;refine uW (vs:=[_,_,_,_]) (cs':=[_,_,_,_]) rfl rfl ir O ?_;clear O;intro w O;refine uO 6 ?_;refine u1 1 (aB rfl) ?_;refine u1 0 (lS (cs:=[_,_,_,_]) rfl) ?_;refine iV rfl (xX _ s (SL.sD ((((O.p 5).p 5).p 5).p 5)) hsm) ?_;rintro e w ⟨rfl,hT⟩;replace O:Sat _ _ _:=O.ag hT;clear hT;cases h24:bD s.d
   ·rw[if_neg (by decide)];refine aJ 0 0 (aD rfl rfl) ?_ ?_
    ·intro h25;refine uO 6 ?_;intro a I;refine o1 0 I (ar I rfl BU) ?_;clear I a;refine uW (vs:=[_,_,_,_]) (cs':=[_,_,_,_]) rfl rfl ir (O.p 6) ?_;clear O;intro w O;refine uO 3 ?_;intro a I;replace I:=I.kp [2,3,8] rfl;refine rC 2 I ?_;clear I a;intro a I;refine bO I rfl (br (cs:=[_,_,_,_]) I rfl tP ir (by exact O.ao (xs:=[_,_,_,_]) rfl)) (aQ I rfl) ?_;refine .inr ⟨fun d hd e=>?_,rfl,O.nil⟩;have:=ox (by decide) hfb (cT hd) (by rw[←hst];omega) (hst.symm.trans e);rw[this,hd]at h24;cases h24
    ·intro h25;intro a I;contradiction
   ·rw[if_pos rfl];refine aJ 0 0 (aD rfl rfl) ?_ ?_
    ·intro h25;intro a I;contradiction
    ·intro h25;refine uO 6 ?_;intro a I;replace I:=I.kp [2,3,8] rfl;refine rC 2 I ?_;clear I a;refine u1 0 (lS (cs:=[_,_,_,_]) rfl) ?_;refine uW (vs:=[_,_,_,_]) (cs':=[_,_,_,_]) rfl rfl ir (O.p 6) ?_;clear O;intro w O;refine uO 4 ?_;intro a I;refine bO I rfl (br (cs:=[_,_,_,_]) I rfl tP ir (by exact O.ao (xs:=[_,_,_,_]) rfl)) (aQ I rfl) ?_;exact .inl ⟨s,hst,h24,hsm,rfl,y7 ((((O.p 6).p 6).p 6).p 6)⟩
  ·intro h15;intro a I;contradiction
 ·replace O:Sat _ _ _:=O.ag hT;clear hT;refine uO 1 ?_;refine u1 0 (ai rfl rfl) ?_;refine u1 0 (ai rfl rfl) ?_;refine u1 0 (ai rfl rfl) ?_;refine j4 0 0 (ai rfl rfl) ?_ ?_
  ·intro h15;intro a I;contradiction
  ·intro h15;intro a I;simp only at h15;refine goN I rfl cY O ?_;clear I a O;intro b5 w O;refine uO 1 ?_;refine uW (vs:=[_,_]) (cs':=[_,_]) rfl rfl aO O ?_;clear O;intro w O;refine uO 7 ?_;refine u1 1 (lS (cs:=[_,_]) rfl) ?_;intro a I;refine o1 0 I (ar I rfl nf) ?_;clear I a;refine uN sc O ?_;clear O;intro b8 w O;refine uW (vs:=[_,_,_,_]) (cs':=[_,_,_,_]) rfl rfl ir O ?_;clear O;intro w O;refine uO 6 ?_;refine u1 10 (aB rfl) ?_;intro a I;refine o1 0 I (ar I rfl BU) ?_;clear I a;refine uW (vs:=[_,_,_,_]) (cs':=[_,_,_,_]) rfl rfl ir (O.p 2) ?_;clear O;intro w O;refine uO 3 ?_;intro a I;replace I:=I.kp [2,3,8] rfl;refine rC 2 I ?_;clear I a;intro a I;refine bO I rfl (br (cs:=[_,_,_,_]) I rfl tP ir (by exact O.ao (xs:=[_,_,_,_]) rfl)) (aQ I rfl) ?_
   exact .inr ⟨hno bD (fun d hd=>cT hd),rfl,O.nil⟩
theorem mq (W:World)(A:Option Addr)(c:Nat)(bs:List UInt8)(hb:bs.length≤16777216)(hR:Rd W 1 (.slice A bs.length c) bs.length (bs.map aj)):Calls Tryz.prog 425 #[.agg #[],.slice A (bs).length c] W fun e w'=>(∃s:SL,bs=cC 1 s.d∧aH s.d=true∧kQ s∧e=.returned (.tuple #[.agg #[.slice s.e.a s.e.es.length s.e.c,.slice s.p.va s.p.d.vec.length s.p.vc,.slice s.p.ca s.p.d.ab.length s.p.cc,.slice s.r.a s.r.rs.length s.r.c],.int .i64 0])∧Sat W w' [fJ 216 s.e.a s.e.c s.e.es,cq 3 s.p.va s.p.vc s.p.d.vec,bp 219 s.p.ca s.p.cc s.p.d.ab,s.r.ch 206 3 219])∨(my 1 aH bs∧e=.returned (.tuple #[.agg #[.slice none 0 0,.slice none 0 0,.slice none 0 0,.slice none 0 0],.int .i64 8])∧Sat W w' []):=by
 refine bS Tryz.func425 [0,1] ?_;have O:=Sat.start W;refine uC 2 ?_;refine uB rfl O ?_;clear O;intro b2 w O;refine uN qg O ?_;clear O;intro b4 w O;refine uO 6 ?_;refine uF rfl (vh _ A c bs hb (hR.sat O)) ?_;rintro e w (⟨s,hst,hfb,hsm,rfl,hT⟩ | ⟨hno,rfl,hT⟩)
 ·replace O:Sat _ _ (_::_::_::_::_):=O.ag hT;clear hT;refine u1 0 (ai rfl rfl) ?_;refine u1 0 (ai rfl rfl) ?_;refine uW (vs:=[_,_,_,_]) (cs':=[_,_,_,_]) rfl rfl gK (O.p 4) ?_;clear O;intro w O;refine uO 4 ?_;intro a I;refine bO I rfl (br (cs:=[_,_,_,_]) I rfl vw gK (by exact O.ao (xs:=[_,_,_,_]) rfl)) (aQ I rfl) ?_;exact .inl ⟨s,hst,hfb,hsm,rfl,y7 ((((O.p 4).p 4).p 4).p 4)⟩
 ·replace O:Sat _ _ _:=O.ag hT;clear hT;refine u1 0 (ai rfl rfl) ?_;refine u1 0 (ai rfl rfl) ?_;refine uW (vs:=[_,_,_,_]) (cs':=[_,_,_,_]) rfl rfl gK O ?_;clear O;intro w O;refine uO 4 ?_;intro a I;refine bO I rfl (br (cs:=[_,_,_,_]) I rfl vw gK (by exact O.ao (xs:=[_,_,_,_]) rfl)) (aQ I rfl) ?_;exact .inr ⟨hno,rfl,O.nil⟩
theorem mf (W:World)(A:Option Addr)(c:Nat)(bs:List UInt8)(hb:bs.length≤16777216)(hR:Rd W 1 (.slice A bs.length c) bs.length (bs.map aj)):Calls Tryz.prog 333 #[.agg #[],.slice A (bs).length c] W fun e w'=>(∃s:SL,bs=cC 2 s.d∧bD s.d=true∧kQ s∧e=.returned (.tuple #[.agg #[.slice s.e.a s.e.es.length s.e.c,.slice s.p.va s.p.d.vec.length s.p.vc,.slice s.p.ca s.p.d.ab.length s.p.cc,.slice s.r.a s.r.rs.length s.r.c],.int .i64 0])∧Sat W w' [fJ 216 s.e.a s.e.c s.e.es,cq 3 s.p.va s.p.vc s.p.d.vec,bp 219 s.p.ca s.p.cc s.p.d.ab,s.r.ch 206 3 219])∨(my 2 bD bs∧e=.returned (.tuple #[.agg #[.slice none 0 0,.slice none 0 0,.slice none 0 0,.slice none 0 0],.int .i64 8])∧Sat W w' []):=by
 refine bS Tryz.func333 [0,1] ?_;have O:=Sat.start W;refine uC 2 ?_;refine uB rfl O ?_;clear O;intro b2 w O;refine uN sc O ?_;clear O;intro b4 w O;refine uO 6 ?_;refine uF rfl (wi _ A c bs hb (hR.sat O)) ?_;rintro e w (⟨s,hst,hfb,hsm,rfl,hT⟩ | ⟨hno,rfl,hT⟩)
 ·replace O:Sat _ _ (_::_::_::_::_):=O.ag hT;clear hT;refine u1 0 (ai rfl rfl) ?_;refine u1 0 (ai rfl rfl) ?_;refine uW (vs:=[_,_,_,_]) (cs':=[_,_,_,_]) rfl rfl ir (O.p 4) ?_;clear O;intro w O;refine uO 4 ?_;intro a I;refine bO I rfl (br (cs:=[_,_,_,_]) I rfl tP ir (by exact O.ao (xs:=[_,_,_,_]) rfl)) (aQ I rfl) ?_;exact .inl ⟨s,hst,hfb,hsm,rfl,y7 ((((O.p 4).p 4).p 4).p 4)⟩
 ·replace O:Sat _ _ _:=O.ag hT;clear hT;refine u1 0 (ai rfl rfl) ?_;refine u1 0 (ai rfl rfl) ?_;refine uW (vs:=[_,_,_,_]) (cs':=[_,_,_,_]) rfl rfl ir O ?_;clear O;intro w O;refine uO 4 ?_;intro a I;refine bO I rfl (br (cs:=[_,_,_,_]) I rfl tP ir (by exact O.ao (xs:=[_,_,_,_]) rfl)) (aQ I rfl) ?_;exact .inr ⟨hno,rfl,O.nil⟩
def bn (bs:List UInt8):Nat×Nat:=bs.foldl (fun s b=>((s.1+b.toNat) % 4294967296,(s.2+(s.1+b.toNat) % 4294967296) % 4294967296)) (0,0)
theorem rY {bs:List UInt8}{i:Nat}{b:UInt8}(h:bs[i]?=some b):bn (bs.take (i+1))=(((bn (bs.take i)).1+b.toNat) % 4294967296,((bn (bs.take i)).2+((bn (bs.take i)).1+b.toNat) % 4294967296) % 4294967296):=by
 unfold bn;rw[aF h,List.foldl_append];rfl
theorem ng (bs:List UInt8):(bn bs).1<4294967296∧(bn bs).2<4294967296:=by
 rcases List.eq_nil_or_concat bs with rfl | ⟨l,b,rfl⟩
 ·
  decide
 ·
  rw[List.concat_eq_append];unfold bn;rw[List.foldl_append];simp only[List.foldl_cons,List.foldl_nil];exact⟨Nat.mod_lt _ (by decide),Nat.mod_lt _ (by decide)⟩
def wg (bs:List UInt8)(i:Nat):Nat:=((bn (bs.take i)).2+(bs.length-i) * (bn (bs.take i)).1) % 4294967296
theorem C8 {bs:List UInt8}{i:Nat}{b:UInt8}(h:bs[i]?=some b):wg bs (i+1)=(wg bs i+(bs.length-i) % 4294967296 * b.toNat) % 4294967296:=by
 have hi:=(List.getElem?_eq_some_iff.1 h).1;unfold wg;rw[rY h];simp only
 generalize (bn (bs.take i)).1=x
 generalize (bn (bs.take i)).2=y
 obtain⟨k,hk⟩:∃k,bs.length-i=k+1:=⟨bs.length-i-1,by omega⟩;rw[hk,show bs.length-(i+1)=k from by omega]
 generalize b.toNat=c
 have e1:((y+(x+c) % 4294967296) % 4294967296+k * ((x+c) % 4294967296)) % 4294967296=(y+(x+c)+k * (x+c)) % 4294967296:=by
  rw[Nat.add_mod,Nat.mod_mod,Nat.mul_mod,Nat.mod_mod,←Nat.mul_mod,←Nat.add_mod,Nat.add_mod (y+_),Nat.add_mod y,Nat.mod_mod,←Nat.add_mod y,←Nat.add_mod]
 have e2:((y+(k+1) * x) % 4294967296+(k+1) % 4294967296 * c) % 4294967296=(y+(k+1) * x+(k+1) * c) % 4294967296:=by
  rw[Nat.add_mod,Nat.mod_mod,Nat.mul_mod ((k+1) % 4294967296),Nat.mod_mod,←Nat.mul_mod,←Nat.add_mod]
 rw[e1,e2]
 congr 1
 rw[Nat.add_mul,Nat.add_mul,Nat.mul_add];omega
theorem FB (bs:List UInt8):wg bs bs.length=(bn bs).2:=by
 unfold wg;rw[List.take_length,Nat.sub_self,Nat.zero_mul,Nat.add_zero,Nat.mod_eq_of_lt (ng bs).2]
def cU (n:Nat):List UInt8:=[UInt8.ofNat (n / 16777216),UInt8.ofNat (n / 65536),UInt8.ofNat (n / 256),UInt8.ofNat n]
def fj (b:List UInt8):List UInt8:=b++(cU (bn b).1++cU (bn b).2)
theorem wrap32 (a b:Nat):IntKind.u32.wrap ((a:Int)+(b:Int))=(((a+b) % 4294967296:Nat):Int):=by
 simp[IntKind.wrap,IntKind.bits,IntKind.signed]
theorem ui (W:World)(A:Option Addr)(c:Nat)(bs:List UInt8)(hR:Rd W 1 (.slice A bs.length c) bs.length (bs.map aj))(hl:bs.length≤1000000000000):Calls Tryz.prog 55 #[.slice A (bs).length c] W fun e w'=>e=.returned (.tuple #[.int .i64 (((bn bs).1:Nat):Int),.int .i64 (((bn bs).2:Nat):Int)])∧Sat W w' []:=by
 refine bS Tryz.func55 [0] ?_;have O:=Sat.start W;refine uC 16 ?_;refine u1 4 (ak rfl bd) ?_;intro a I;refine wp_loop_ghost (fun (mm:Nat) a w=>∃(i:Nat),Ag a 26 [(4,.int .u32 (((bn (bs.take i)).1:Nat):Int)),(5,.int .u32 (((bn (bs.take i)).2:Nat):Int)),(8,.slice A (bs).length c),(9,.int .i64 ((bs.length:Nat):Int)),(10,.int .i64 ((i:Nat):Int))]∧Sat W w ([])∧(i≤bs.length)∧mm=bs.length-i) bs.length ?_ ?_
 ·replace I:=I.kp [4,5,8,9,10] rfl;exact⟨0,I,O,(by omega),by omega⟩
 intro m a w hI;clear O I;obtain⟨i,I,O,hi,rfl⟩:=hI;refine rC 2 I ?_;clear I a;refine aJ 0 0 (aq rfl rfl) ?_ ?_
 ·intro h11;refine uO 10 ?_;obtain⟨A_p,rfl⟩:∃q,A=some q:=(hR.sat O).au (by omega);obtain⟨b,hb⟩:∃zz_,bs[i]?=some zz_:=⟨_,List.getElem?_eq_getElem (by omega)⟩;have hb8:=b.toNat_lt;have hsm:=rY hb;have hx1:(bn (bs.take (i+1))).1=((bn (bs.take i)).1+b.toNat) % 4294967296:=by rw[hsm]
  have hy1:(bn (bs.take (i+1))).2=((bn (bs.take i)).2+((bn (bs.take i)).1+b.toNat) % 4294967296) % 4294967296:=by rw[hsm]
  refine u1 0 (ix rfl rfl bd sL) ?_;refine u1 7 (an rfl Az (fP (hR.sat O) (bu hb))) ?_;refine u1 0 (nk rfl oa EW (by simp only[IntKind.min,IntKind.signed,IntKind.bits];omega) (by simp only[IntKind.max,IntKind.signed,IntKind.bits];omega)) ?_;refine u1 6 (aw (BG rfl rfl) (show _=Value.int .u32 ((((bn (bs.take i)).1+b.toNat) % 4294967296:Nat):Int) from congrArg (Value.int .u32) (wrap32 _ _))) ?_;refine u1 5 (aw (BG rfl rfl) (show _=Value.int .u32 ((((bn (bs.take i)).2+((bn (bs.take i)).1+b.toNat) % 4294967296) % 4294967296:Nat):Int) from congrArg (Value.int .u32) (wrap32 _ _))) ?_;refine u1 2 (ad rfl rfl) ?_;intro a I;replace I:=I.kp [4,5,8,9,10] rfl;rw[←hy1,←hx1]at I;exact⟨bs.length-(i+1),by omega,i+1,I,O,by omega,rfl⟩
 ·intro h11;obtain rfl:i=bs.length:=by omega
  intro a I;rw[List.take_length]at I;have hlt:=ng bs;refine rO 12 I ?_;clear I a;refine u1 1 (nk rfl EW pA (by simp only[IntKind.min,IntKind.signed,IntKind.bits];omega) (by simp only[IntKind.max,IntKind.signed,IntKind.bits];omega)) ?_;refine u1 4 (nk rfl EW pA (by simp only[IntKind.min,IntKind.signed,IntKind.bits];omega) (by simp only[IntKind.max,IntKind.signed,IntKind.bits];omega)) ?_;intro a I;replace I:=I.kp [2,3] rfl;refine rC 1 I ?_;clear I a;refine fo ?_;exact⟨rfl,O⟩
theorem sK (W:World)(A:Option Addr)(c:Nat)(bs:List UInt8)(hR:Rd W 1 (.slice A bs.length c) bs.length (bs.map aj))(hl:bs.length≤1000000000000):Calls Tryz.prog 42 #[.slice A (bs).length c] W fun e w'=>e=.returned (.tuple #[.int .i64 (((bn bs).1:Nat):Int),.int .i64 (((bn bs).2:Nat):Int)])∧Sat W w' []:=by
 refine bS Tryz.func42 [0] ?_;have O:=Sat.start W;refine uC 23 ?_;intro a I;refine wp_loop_ghost (fun (mm:Nat) a w=>∃(i:Nat),Ag a 37 [(0,.slice A (bs).length c),(4,.int .i64 (((bn (bs.take i)).1:Nat):Int)),(5,.int .i64 (((wg bs i):Nat):Int)),(6,.int .i64 ((i:Nat):Int))]∧Sat W w ([])∧(i≤bs.length)∧(wg bs i<4294967296)∧mm=bs.length-i) bs.length ?_ ?_
 ·replace I:=I.kp [0,4,5,6] rfl;rw[show Value.int .i64 0=.int .i64 ((wg bs 0:Nat):Int) from by simp[wg,bn]]at I;exact⟨0,I,O,(by omega),(by exact Nat.mod_lt _ (by decide)),by omega⟩
 intro m a w hI;clear O I;obtain⟨i,I,O,hi,hr,rfl⟩:=hI;refine rC 5 I ?_;clear I a;refine u1 0 (ak rfl bd) ?_;refine aJ 0 0 (aq rfl rfl) ?_ ?_
 ·intro h10;refine uO 12 ?_;obtain⟨A_p,rfl⟩:∃q,A=some q:=(hR.sat O).au (by omega);obtain⟨b,hb⟩:∃zz_,bs[i]?=some zz_:=⟨_,List.getElem?_eq_getElem (by omega)⟩;have hb8:=b.toNat_lt;have hsm:=rY hb;have hxl:=(ng (bs.take i)).1;refine u1 0 (ix rfl rfl bd sL) ?_;refine u1 0 (an rfl Az (fP (hR.sat O) (bu hb))) ?_;refine u1 0 (nk rfl oa pA (by simp only[IntKind.min,IntKind.signed,IntKind.bits];omega) (by simp only[IntKind.max,IntKind.signed,IntKind.bits];omega)) ?_;refine u1 0 (ad rfl rfl) ?_;have hx1:(bn (bs.take (i+1))).1=((bn (bs.take i)).1+b.toNat) % 4294967296:=by rw[hsm]
  refine u1 6 (aw (gj rfl rfl (by omega) (by omega)) (show _=Value.int .i64 (((bn (bs.take (i+1))).1:Nat):Int) from congrArg (Value.int .i64) (by omega))) ?_;refine u1 1 (ak rfl bd) ?_;refine u1 0 (aw (sb rfl rfl) (show _=Value.int .i64 ((bs.length-i:Nat):Int) from congrArg (Value.int .i64) (by omega))) ?_;refine u1 2 (aw (gj rfl rfl (by omega) (by omega)) (show _=Value.int .i64 (((bs.length-i) % 4294967296:Nat):Int) from congrArg (Value.int .i64) (by omega))) ?_;refine u1 0 (ix rfl rfl bd sL) ?_;refine u1 0 (an rfl Az (fP (hR.sat O) (bu hb))) ?_;refine u1 0 (nk rfl oa pA (by simp only[IntKind.min,IntKind.signed,IntKind.bits];omega) (by simp only[IntKind.max,IntKind.signed,IntKind.bits];omega)) ?_;obtain⟨pm,hpm⟩:∃z:Nat,z=(bs.length-i) % 4294967296 * b.toNat:=⟨_,rfl⟩
  have hpi:(((bs.length-i) % 4294967296:Nat):Int) * (b.toNat:Int)=(pm:Int):=by rw[hpm,Int.natCast_mul]
  have hpb:pm≤4294967296 * 256:=by rw[hpm];exact Nat.mul_le_mul (by omega) (by omega)
  have hr1:=C8 hb;intro a I;rw[←hpm]at hr1;refine o1 0 I (l9 (I.ev rfl) (I.ev rfl) (by omega) (by omega)) ?_;clear I a;refine u1 0 (ad rfl rfl) ?_;refine u1 6 (aw (gj rfl rfl (by omega) (by omega)) (show _=Value.int .i64 ((wg bs (i+1):Nat):Int) from congrArg (Value.int .i64) (by omega))) ?_;refine u1 2 (ad rfl rfl) ?_;intro a I;replace I:=I.kp [0,4,5,6] rfl;exact⟨bs.length-(i+1),by omega,i+1,I,O,by omega,Nat.mod_lt _ (by decide),rfl⟩
 ·intro h10;refine uO 16 ?_;intro a I;replace I:=I.kp [2,3] rfl;refine rC 1 I ?_;clear I a;refine fo ?_;obtain rfl:i=bs.length:=by omega
  rw[List.take_length,FB]at *;exact⟨rfl,O⟩
end Go.Proofs.YtkjabaihpkbfhaaGreat.Wk
namespace Go.Proofs.YtkjabaihpkbfhaaGreat.K
open Go Go.RowKit
variable {P:Program} {W w:World} {ty t tx e:TypeId} {sz n k c:Nat} {u:Value} {cs ns:List Value} {L:List As} {p:Addr}
theorem tT (i:TypeInfo)(z:Value)(ht:P.underlying t=some (.slice e))(hi:P.info? e=some i)(hz:i.zero=some z)(hzs:z.cells.size=sz)(hsz:i.size=sz)
 (s:Sat W w L) (hR:Rd w sz (.slice (some p) n c) n cs) (hs:Src P sz tx u k ns w) (hroom:c<n+k) (hn:(n+k) * i.bytes≤140737488355328) (hn2:n+k≤140737488355328) :
 ∃v' w',(Builtin.append_ #[t,tx] ty #[.slice (some p) n c,u]).run P w=.ok v' w'∧Sat W w' (row e sz v' (n+k) (cs++ns)::L):=by
 have hnl:=hs.newsLen;subst hsz;have hl:cs.length=n * i.size:=hR.len;have hcell:∀j u,cs[j]?=some u→w.cell? (p.add j)=some u:=fun j u e=>hR.cell e
 refine⟨_,_,run_append_grow_src w t tx ty e i z ht hi hz (some p) n c cs ?_ u k ns hs (by omega) (by omega) (growslice_fits (by omega) hn),?_⟩
 ·
  exact run_firstCells_some w.drew i.size n p n c cs hl fun j u e=>hcell j u e
 ·
  have hc:=grownCap_le w (n+k) c e (by omega);refine (s.drew.alloc _).imp fun h hh=>.inr ⟨w.heap.size,grownCap w (n+k) c e,(Builtin.zeroCells z.cells (grownCap w (n+k) c e-(n+k))).toList,(0,0),rfl,hc.1,hc.2,by simp[hl,hnl,Nat.add_mul],?_,lM.zero _,?_⟩
  ·
   simp only[List.length_append,Array.length_toList,lb,hzs,hnl,hl];rw[←Nat.add_mul,←Nat.add_mul];congr 1;omega
  ·
   rw[show h w.heap.size=_ from hh]
   congr 2
   apply Array.ext';simp
theorem xQ {ρ:Operand→Value}{dd:Option Tmp}{g:Option (Nat×Bool)}{x y:Operand}{ps:String}{af:Array Edge}{z:Value}{by_:Nat}(hs:ρ x=.slice (some p) n c)(hu:ρ y=u)(ht:P.underlying t=some (.slice e))(hi:dX P e=some (some z,sz,by_))(hzs:z.cells.size=sz)
 (s:Sat W w L) (hR:Rd w sz (.slice (some p) n c) n cs) (src:Src P sz tx u k ns w) (hroom:c<n+k) (h1:(n+k) * by_≤140737488355328) (h2:n+k≤140737488355328) :
 ∃v' w',(execOp ρ ⟨dd,.call { callee:=.builtin .append,args:=[x,y].toArray,argTypes:=[t,tx].toArray },ty,ps,af,g⟩).run P w=.ok (.value v') w'∧Sat W w' (row e sz v' (n+k) (cs++ns)::L):=by
 obtain⟨i,hi',hq⟩:=Option.map_eq_some_iff.1 hi;simp only[Prod.mk.injEq]at hq;obtain⟨hz,hsz,hb⟩:=hq;subst hb;obtain⟨v',w',hr,S⟩:=tT (ty:=ty) i z ht hi' hz hzs hsz s hR src hroom h1 h2;refine⟨v',w',?_,S⟩;have hr':Sem.run P (Builtin.append_ #[t,tx] ty #[.slice (some p) n c,u]) w=.ok v' w':=hr
 have he:execOp ρ ⟨dd,.call { callee:=.builtin .append,args:=[x,y].toArray,argTypes:=[t,tx].toArray },ty,ps,af,g⟩=(Builtin.append_ #[t,tx] ty #[.slice (some p) n c,u]).bind fun r=>Sem.pure (Next.value r):=by
  have hm:(#[x,y]:Array Operand).map ρ=#[.slice (some p) n c,u]:=by simp[hs,hu]
  show (resolve ρ { callee:=.builtin .append,args:=#[x,y],argTypes:=#[t,tx] } ty).bind (fun d=>invoke d.target d.args)=_;unfold resolve;simp only[hm]
  rfl
 rw[he,Sem.run_bind',hr']
 rfl
theorem JQ {ops:Array Oper}{a:Act}{N:Nat}{E:Env}{ds:List Deferred}{rest:List Oper}{d:Nat}{Q:Exit→Act→World→Prop}{x y:Operand}{ps:String}{af:Array Edge}{z:Value}{by_:Nat}(I:Ag a N E ds)(hn:Nat.blt d N=true)(hs:fE E x=some (.slice (some p) n c))(hu:fE E y=some u)(ht:P.underlying t=some (.slice e))(hi:dX P e=some (some z,sz,by_))(hzs:z.cells.size=sz)
 (s:Sat W w L) (hR:Rd w sz (.slice (some p) n c) n cs) (src:Src P sz tx u k ns w) (hroom:c<n+k) (h1:(n+k) * by_≤140737488355328) (h2:n+k≤140737488355328)
 (kk:∀A cc w',n+k≤cc→Sat W w' (row e sz (.slice A (n+k) cc) (n+k) (cs++ns)::L)→∀a',Ag a' N ((d,.slice A (n+k) cc)::E) ds→wpList P ops Q rest a' w') :
 wpList P ops Q (⟨some d,.call { callee:=.builtin .append,args:=[x,y].toArray,argTypes:=[t,tx].toArray },ty,ps,af,none⟩::rest) a w:=by
 obtain⟨v',w',hr,S⟩:=xQ (dd:=some d) (ty:=ty) (ps:=ps) (af:=af) (g:=none) (I.ev hs) (I.ev hu) ht hi hzs s hR src hroom h1 h2;obtain⟨A,cc,rfl,hc⟩:=S.rd.form;exact yI I rfl rfl hn hr (kk A cc w' hc S)
end Go.Proofs.YtkjabaihpkbfhaaGreat.K
namespace Go.Proofs.YtkjabaihpkbfhaaGreat.K
open Go Go.RowKit
def wC (P:Program)(t:TypeId)(name:String):Option FuncId:=match P.info? t with
 | none=>none
 | some i => match i.methods.find? (·.name == name) with
   | none=>none
   | some m => match m.path.toList, m.func, P.underlying t with
     | [],some (f,false),some (.struct _)=>some f
     | _,_,_=>none
section
variable {P:Program} {ops:Array Oper} {a:Act} {n:Nat} {E:Env} {w w':World} {d:Nat} {ds:List Deferred} {x:Operand} {Q:Exit→Act→World→Prop} {rest:List Oper} {dd:Option Tmp} {ty:TypeId} {ps:String} {af:Array Edge} {g:Option (Nat×Bool)} {f:Nat} {t:TypeId} {name:String} {v:Value} {l:List Operand} {tys:Array TypeId} {vs:List Value} {R:Ending→World→Prop}
theorem Bd (hm:wC P t name=some f)(k:Nat):(method (k+1) t v name).run P w=.ok (f,v) w:=by
 unfold wC at hm;cases hi:P.info? t with
 | none=>rw[hi]at hm;cases hm
 | some i =>
   rw[hi]at hm;dsimp only at hm;cases hf:i.methods.find? (·.name == name) with
   | none=>rw[hf]at hm;cases hm
   | some m =>
     rw[hf]at hm;dsimp only at hm
     split at hm
     ·
      rename_i fs h1 h2 h3;cases hm;have hu:=run_underlying h3;unfold method;simp[typeInfo,hi,hf,h1,h2,follow,receiverAt,hu,Place.get,go_sem]
     ·
      cases hm
theorem F8 (I:Ag a n E ds)(hm:wC P t name=some f)(hf:enters P f=true)(hx:fE E x=some (.iface t v))(hv:mW E l=some vs) :
 (execOp a.eval ⟨dd,.call { callee:=.invoke x name,args:=l.toArray,argTypes:=tys },ty,ps,af,g⟩).run P w=.ok (.enter f (v::vs).toArray) w:=by
 have h:=kB (w:=w) (args:=(v::vs).toArray) hf;have hq:=I.ev hx;have hv':l.map a.eval=vs:=I.mW hv;have he:execOp a.eval ⟨dd,.call { callee:=.invoke x name,args:=l.toArray,argTypes:=tys },ty,ps,af,g⟩=invoke (.fn (.method name) #[]) (#[a.eval x]++l.toArray.map a.eval):=rfl;have hmm:l.toArray.map a.eval=vs.toArray:=by simp[hv']
 have h2:Sem.run P (method (P.types.size+100) t v name) w=.ok (f,v) w:=Bd (P:=P) (w:=w) (v:=v) hm (P.types.size+99);rw[he,hq,hmm]
 have h3:(#[(.iface t v:Value)]++vs.toArray).extract 1 (#[(.iface t v:Value)]++vs.toArray).size=vs.toArray:=by
  apply Array.ext';simp
 have h4:(#[v]:Array Value)++vs.toArray=(v::vs).toArray:=by simp
 have h5:(callMethod (.iface t v) name vs.toArray).run P w=.ok (.enter f (v::vs).toArray) w:=by
  simp[callMethod,Made.depth,go_sem,h2,h]
 have h0:(#[(.iface t v:Value)]++vs.toArray)[0]?=some (.iface t v):=by simp
 simp only[invoke,h0,h3];exact h5
theorem HR {i:Nat}{K:Act→World→Prop}(I:Ag a n E ds)(hi:ops[i]?=some ⟨some d,.call { callee:=.invoke x name,args:=l.toArray,argTypes:=tys },ty,ps,af,none⟩)
 (hn:Nat.blt d n=true) (hm:wC P t name=some f) (hf:enters P f=true) (hx:fE E x=some (.iface t v)) (hv:mW E l=some vs) (hc:Calls P f (v::vs).toArray w R) (k:∀e w',R e w'→∃v,e=.returned v∧∀a',Ag a' n ((d,v)::E) ds→K a' w'):wpOp P ops Q i K a w:=by
 unfold wpOp;simp only[hi];rw[if_pos (by simp[Region.wanted])];refine .inl ?_;simp only[Oper.wp,F8 (dd:=some d) I hm hf hx hv,Oper.upon];refine hc.mono fun e w' h=>?_;obtain⟨v,rfl,hk⟩:=k e w' h;exact hk _ (I.put hn v)
end
end Go.Proofs.YtkjabaihpkbfhaaGreat.K
namespace Go.Proofs.YtkjabaihpkbfhaaGreat.Wk
open Go Go.RowKit Go.Proofs.YtkjabaihpkbfhaaGreat Go.Proofs.YtkjabaihpkbfhaaGreat.K Go.Proofs.YtkjabaihpkbfhaaGreat.T
theorem eR {bs:List UInt8}{i v n:Nat}{cQ:Int}(h:dr bs i=(v,n,0))(hv:(v:Int)≤cQ):bh cQ (bs.drop i)=some (v,bs.drop n):=by
 have h1:=sw (bs:=bs) (i:=i) (mo:=cQ) (by rw[h]) (by rw[h];exact hv);have h2:=tw (bs:=bs) (i:=i) (mo:=cQ) (by rw[h1]);rw[h1,h]at h2;exact h2
theorem nh {bs:List UInt8}{i:Nat}{cQ:Int}(h:(dr bs i).2.2≠0):bh cQ (bs.drop i)=none:=oN (by rw[rq h];exact h)
theorem lR {bs:List UInt8}{i v n:Nat}{cQ:Int}(h:dr bs i=(v,n,0))(hv:cQ<(v:Int)):bh cQ (bs.drop i)=none:=oN (by rw[rz (by rw[h]) (by rw[h];exact hv)];decide)
theorem dP {bs:List UInt8}{i v n:Nat}(h:dr bs i=(v,n,0)):i<n∧n≤bs.length∧n-i=(aV v).length∧v≤9223372036854775807:=by
 have:=qx (bs:=bs) (i:=i) (by rw[h]);rw[h]at this;exact⟨this.1,this.2.1,this.2.2.2.2.2,this.2.2.1⟩
theorem Di {acc wt i:Nat}(ha:acc<wt)(hw:jt wt i)(h0:0<i):(aV acc).length≤i:=by
 unfold jt at hw;have:=vE (i-1) acc (by rw[show i-1+1=i from by omega,←hw];exact ha);omega
theorem Fq {bs:List UInt8}{at_ acc wt:Nat}{cQ:Int}(hw:jt wt 6)(hm:cQ<4398046511104)(hI:gi 9 0 (bs.drop at_)=lift acc wt 6 (gi (9-6) 6 (bs.drop (at_+6)))):bh cQ (bs.drop at_)=none:=by
 have hw6:wt=4398046511104:=hw;subst hw6;unfold bh;rw[if_neg];rw[hI];rintro ⟨h1,h2⟩;unfold lift at h1 h2
 by_cases h0:(gi (9-6) 6 (bs.drop (at_+6))).1=0
 ·
  rw[if_pos h0]at h2;obtain⟨_,_,_,h3,_⟩:=tp (9-6) 6 (bs.drop (at_+6)) _ _ (Prod.ext h0 rfl);have h4:=h3 (by omega);have h5:4398046511104 * 1≤4398046511104 * (gi (9-6) 6 (bs.drop (at_+6))).2.1:=Nat.mul_le_mul_left _ h4
  generalize 4398046511104 * (gi (9-6) 6 (bs.drop (at_+6))).2.1=z at *
  dsimp only at h2;omega
 ·
  rw[if_neg h0]at h1;exact h0 h1
theorem uS {wt i:Nat}(hw:jt wt i)(hi:i≤6):1≤wt∧wt≤4398046511104:=by
 unfold jt at hw;subst hw;exact⟨Nat.pow_pos (by decide),Nat.le_trans (Nat.pow_le_pow_right (by decide) hi) (by decide)⟩
theorem JN {x wt i:Nat}(hx:x<128)(h:jt wt i)(hi:i≤6):x * wt≤558551906910208:=Nat.le_trans (Nat.mul_le_mul (show x≤127 by omega) (uS h hi).2) (by decide)
def wU (p:Option aL):Int:=match p with | some q=>q.hi | none=>0
theorem AK {vec:List Int}{cl:List aL}{i:Nat}{r:Int}(h:i=0):bt vec (ahead none cl i) r=ay vec r.toNat+2:=by subst h;rfl
theorem zH {vec:List Int}{p:Option aL}{r:Int}(h:r≠bV p):bt vec p r=ay vec r.toNat+2:=by
 cases p with
 | none=>rfl
 | some q=>unfold bt bV at *;simp only at *;rw[if_neg (Ne.symm h)]
theorem FU {vec:List Int}{cl:List aL}{i:Nat}{r:Int}(h0:0<i)(h1:i≤cl.length)(h:r=bV (ahead none cl i)):bt vec (ahead none cl i) r=wU (ahead none cl i)+2:=by
 have:∃q,ahead none cl i=some q:=by
  unfold ahead;rw[if_neg (by omega)];exact⟨_,List.getElem?_eq_getElem (by omega)⟩
 obtain⟨q,hq⟩:=this;rw[hq]at h ⊢;unfold bt bV wU at *;simp only at *;rw[if_pos h.symm]
theorem HC {p:aI}(h:DP p)(i:Nat):0≤wU (ahead none p.ab i)∧wU (ahead none p.ab i)≤1000000000:=by
 unfold wU;cases e:ahead none p.ab i with
 | none=>simp
 | some q =>
   have hi:¬i=0:=fun h=>by subst h;simp[ahead]at e
   unfold ahead at e;rw[if_neg hi]at e;have h1:=jD h e;have h2:=yj h (i-1) q e;simp only;omega
theorem EA {v:List Int}{r:Nat}{x:Int}(h:v[r]?=some x):ay v r=x:=by unfold ay;rw[h]
theorem DY {v:List Int}{r:Nat}(h:v.length≤r):ay v r=0:=by unfold ay;rw[List.getElem?_eq_none h]
theorem Ex {bs:List UInt8}{at_ i acc wt:Nat}{x:UInt8}{mo:Int}(hi:i≤5)(hx:bs[at_+i]?=some x)(hlt:x.toNat<128)(hac:acc<wt)(hw:jt wt i)(hI:gi 9 0 (bs.drop at_)=lift acc wt i (gi (9-i) i (bs.drop (at_+i)))) :
 ((mo<((acc+x.toNat % 128 * wt:Nat):Int)∨(aV (acc+x.toNat % 128 * wt)).length≠i+1)→bh mo (bs.drop at_)=none)∧(¬(mo<((acc+x.toNat % 128 * wt:Nat):Int))→¬((aV (acc+x.toNat % 128 * wt)).length≠i+1)→bh mo (bs.drop at_)=some (acc+x.toNat % 128 * wt,bs.drop (at_+i+1))):=by
 rw[show x.toNat % 128=x.toNat from by omega]
 by_cases h0:x.toNat=0∧0<i
 ·
  have h1:bh mo (bs.drop at_)=none:=nh (by rw[jh (by omega) hx h0.1 h0.2 hI];decide);refine⟨fun _=>h1,fun _ h=>?_⟩;have:=Di hac hw h0.2;rw[h0.1,Nat.zero_mul,Nat.add_zero]at h;omega
 ·
  have h1:=jc (by omega) hx hlt h0 hI;have h2:=dP h1;refine⟨fun h=>?_,fun h _=>eR h1 (by omega)⟩;rcases h with h | h
  ·
   exact lR h1 h
  ·
   omega
theorem Fo {ys:List aL}(hy:∀s∈ys,0≤s.rep∧s.rep<16∧0≤s.hi∧s.hi≤1000000000):0≤wU ys.getLast?∧wU ys.getLast?≤1000000000:=by
 unfold wU;cases e:ys.getLast? with
 | none=>simp
 | some q=>have:=hy q (List.mem_of_getLast? e);simp only;omega
theorem D1 {α:Type}{ys:List α}(h:0<ys.length):ys.getLast?≠none:=fun e=>by
 rw[List.getLast?_eq_none_iff]at e;rw[e]at h;simp at h
theorem CZ {xs:List Int}{ys:List aL}{r:Int}(h:ys.length=0):bt xs ys.getLast? r=ay xs r.toNat+2:=by
 rw[List.eq_nil_of_length_eq_zero h];rfl
theorem qF {bs:List UInt8}{n:Nat}(h:n=bs.length):bs.drop n=[]:=List.drop_of_length_le (by omega)
theorem drop_nil {bs:List UInt8}{n:Nat}(hn:n≤bs.length)(h:bs.drop n=[]):n=bs.length:=by
 have:=congrArg List.length h;rw[List.length_drop,List.length_nil]at this;omega
def n9 (bs:List UInt8)(at_:Nat)(bad:Bool)(mo:Int)(v at':Nat)(bad':Bool):Prop:=
 at'≤bs.length∧v≤4398046511104∧((bad'=false∧bad=false∧(v:Int)≤mo∧bh mo (bs.drop at_)=some (v,bs.drop at'))∨(bad'=true∧v=0∧(bad=true∨bh mo (bs.drop at_)=none)))
def FW (bs:List UInt8)(at_:Nat)(bad:Bool)(mo:Int)(s:List UInt8)(at':Nat)(bad':Bool):Prop:=
 at'≤bs.length∧((bad'=false∧bad=false∧cy mo (bs.drop at_)=some (s,bs.drop at'))∨(bad'=true∧s=[]∧(bad=true∨cy mo (bs.drop at_)=none)))
def ym (bs:List UInt8)(at_:Nat)(bad:Bool)(d:aI)(at':Nat)(bad':Bool):Prop:=
 at'≤bs.length∧d.vec.length≤16∧d.ab.length≤bs.length∧((bad'=false∧bad=false∧cL (bs.drop at_)=some (d,bs.drop at')∧bg d=true)∨(bad'=true∧(bad=true∨∀q r,cL (bs.drop at_)=some (q,r)→bg q=false)))
section
variable {bs:List UInt8} {at_ at' v:Nat} {mo:Int} {bad b:Bool}
theorem n9.le (h:n9 bs at_ bad mo v at' b):at'≤bs.length∧v≤4398046511104:=⟨h.1,h.2.1⟩
theorem n9.ok (h:n9 bs at_ bad mo v at' false):bad=false∧(v:Int)≤mo∧bh mo (bs.drop at_)=some (v,bs.drop at'):=by
 rcases h.2.2 with ⟨_,h⟩ | ⟨h,_⟩
 ·
  exact h
 ·
  cases h
theorem n9.no (h:n9 bs at_ bad mo v at' true):v=0∧(bad=true∨bh mo (bs.drop at_)=none):=by
 rcases h.2.2 with ⟨h,_⟩ | ⟨_,h⟩
 ·
  cases h
 ·
  exact h
theorem n9.cQ (h:n9 bs at_ bad mo v at' b)(h0:0≤mo):(v:Int)≤mo:=by
 cases b with
 | false=>exact h.ok.2.1
 | true=>have:=h.no.1;omega
theorem FW.ok {s:List UInt8}(h:FW bs at_ bad mo s at' false):bad=false∧cy mo (bs.drop at_)=some (s,bs.drop at'):=by
 rcases h.2 with ⟨_,h⟩ | ⟨h,_⟩
 ·
  exact h
 ·
  cases h
theorem FW.no {s:List UInt8}(h:FW bs at_ bad mo s at' true):s=[]∧(bad=true∨cy mo (bs.drop at_)=none):=by
 rcases h.2 with ⟨h,_⟩ | ⟨_,h⟩
 ·
  cases h
 ·
  exact h
theorem ym.ok {d:aI}(h:ym bs at_ bad d at' false):bad=false∧cL (bs.drop at_)=some (d,bs.drop at')∧bg d=true:=by
 rcases h.2.2.2 with ⟨_,h⟩ | ⟨h,_⟩
 ·
  exact h
 ·
  cases h
theorem ym.no {d:aI}(h:ym bs at_ bad d at' true):bad=true∨∀q r,cL (bs.drop at_)=some (q,r)→bg q=false:=by
 rcases h.2.2.2 with ⟨h,_⟩ | ⟨_,h⟩
 ·
  cases h
 ·
  exact h
theorem oP (ha:at'≤bs.length)(h:bad=true∨bh mo (bs.drop at_)=none):n9 bs at_ bad mo 0 at' true:=⟨ha,by omega,.inr ⟨rfl,rfl,h⟩⟩
theorem BZ {l:List UInt8}(h:bh mo l=none):cy mo l=none:=by unfold cy;rw[h]
theorem CE {l r:List UInt8}(h:bh mo l=some (v,r))(h2:r.length<v):cy mo l=none:=by
 cases e:cy mo l with
 | none=>rfl
 | some q =>
   obtain⟨s,t⟩:=q;obtain⟨rfl,h3,h4⟩:=dY.1 e;rw[List.append_assoc]at h;have h5:=(aW (cQ:=mo) (l:=aV s.length++(s++t)) (v:=s.length) (r:=s++t)).2 ⟨rfl,h3,h4⟩;rw[h5]at h;cases h;rw[List.length_append]at h2;omega
theorem B2 {bs:List UInt8}{a:Nat}{l:List UInt8}(h:bh mo l=some (v,bs.drop a))(h2:a+v≤bs.length):cy mo l=some ((bs.drop a).take v,bs.drop (a+v)):=by
 obtain⟨rfl,h3,h4⟩:=aW.1 h;have hl:((bs.drop a).take v).length=v:=by rw[List.length_take,List.length_drop];omega
 refine dY.2 ⟨?_,by rw[hl];exact h3,by rw[hl];exact h4⟩;rw[hl,List.append_assoc,←List.drop_drop,List.take_append_drop]
end
def xl (vec:List Int)(l2:List UInt8):Option (aI×List UInt8):=match bh 9223372036854775807 l2 with
 | none=>none
 | some (k, l3) => match dG (fv vec) k none l3 with
   | none=>none
   | some (ab,r)=>some (⟨vec,ab⟩,r)
theorem Dn {l l1:List UInt8}{n:Nat}(h:bh 16 l=some (n,l1)):cL l=(dG (kz 1000000000).f n none l1).bind fun q=>xl q.1 q.2:=by
 unfold cL xl;rw[h];simp only;cases dG (kz 1000000000).f n none l1 with
 | none=>rfl
 | some q=>rfl
def FX (bs:List UInt8)(at_:Nat)(bad b:Bool)(v i at1:Nat)(xs:List Int):Prop:=
 (b=false∧bad=false∧cL (bs.drop at_)=((dG (kz 1000000000).f (v-i) xs.getLast? (bs.drop at1)).map fun q=>(xs++q.1,q.2)).bind fun q=>xl q.1 q.2)∨(b=true∧(bad=true∨cL (bs.drop at_)=none))
def Cb (bs:List UInt8)(at_:Nat)(bad b:Bool)(xs:List Int)(v j at2:Nat)(ys:List aL):Prop:=
 (b=false∧bad=false∧cL (bs.drop at_)=(dG (fv xs) (v-j) ys.getLast? (bs.drop at2)).map fun q=>((⟨xs,ys++q.1⟩:aI),q.2))∨(b=true∧(bad=true∨cL (bs.drop at_)=none))
section
variable {bs:List UInt8} {at_ at1 at2 v i j:Nat} {bad b:Bool} {xs:List Int} {ys:List aL}
theorem FX.start (h:n9 bs at_ bad 16 v at1 b):FX bs at_ bad b v 0 at1 []:=by
 cases b with
 | false =>
   obtain⟨h1,_,h2⟩:=h.ok;refine .inl ⟨rfl,h1,?_⟩;rw[Dn h2,Nat.sub_zero];rw[show ([]:List Int).getLast?=none from rfl]
   congr 1
   cases dG (kz 1000000000).f v none (bs.drop at1) with
   | none=>rfl
   | some q=>rfl
 | true =>
   obtain⟨_,h⟩:=h.no;exact .inr ⟨rfl,h.imp id CN⟩
theorem FX.more (h:FX bs at_ bad false v i at1 xs)(hi:i<v){x a:Nat}{b':Bool}(hn:n9 bs at1 false 1000000000 x a b'):FX bs at_ bad b' v (i+1) a (xs++[(x:Int)]):=by
 rcases h with ⟨_,hb,h⟩ | ⟨h,_⟩
 ·
  rw[show v-i=(v-(i+1))+1 from by omega]at h;cases b' with
  | false =>
    refine .inl ⟨rfl,hb,?_⟩;rw[h,bH]
    congr 1
    exact iJ rfl (wH hn.ok.2.2)
  | true =>
    have:=hn.no.2;rcases this with h0 | h0
    ·
     cases h0
    ·
     refine .inr ⟨rfl,.inr ?_⟩;rw[h,c6 rfl (xp h0)];rfl
 ·
  cases h
theorem DK {l:List UInt8}(hx:∀v∈xs,0≤v∧v≤1000000000){n:Nat}(hl:l.length≤n)(h:bh (n:Int) l=none):xl xs l=none:=by
 unfold xl;cases e:bh 9223372036854775807 l with
 | none=>rfl
 | some q =>
   obtain⟨k,l3⟩:=q;obtain⟨e1,e2,e3⟩:=aW.1 e
   have hk:n<k:=by
    rcases Nat.lt_or_ge n k with hk | hk
    ·
     exact hk
    ·
     rw[aW.2 ⟨e1,by omega,e3⟩]at h;cases h
   have:=congrArg List.length e1;rw[List.length_append]at this;simp only;rw[vA hx (by omega)]
theorem FX.next (h:FX bs at_ bad b v i at1 xs)(hi:v≤i∨b=true)(hx:∀v∈xs,0≤v∧v≤1000000000){n a:Nat}{b':Bool}(hn:n9 bs at1 b (bs.length:Int) n a b'):Cb bs at_ bad b' xs n 0 a []:=by
 rcases h with ⟨rfl,hb,h⟩ | ⟨rfl,h⟩
 ·
  have hv:v-i=0:=by
   rcases hi with hi | hi
   ·
    omega
   ·
    cases hi
  rw[hv,dG]at h;simp only[Option.map_some,List.append_nil,Option.bind_some]at h;cases b' with
  | false =>
    obtain⟨_,_,h2⟩:=hn.ok;obtain⟨e1,e2,e3⟩:=aW.1 h2;have h3:=(aW (cQ:=9223372036854775807)).2 ⟨e1,by omega,e3⟩;refine .inl ⟨rfl,hb,?_⟩;rw[h];unfold xl;rw[h3,Nat.sub_zero];simp only;rw[show ([]:List aL).getLast?=none from rfl];cases dG (fv xs) n none (bs.drop a) with
    | none=>rfl
    | some q=>rfl
  | true =>
    rcases hn.no.2 with h0 | h0
    ·
     cases h0
    ·
     refine .inr ⟨rfl,.inr ?_⟩;rw[h];exact DK hx (by rw[List.length_drop];omega) h0
 ·
  cases b' with
  | false=>have:=hn.ok.1;cases this
  | true=>exact .inr ⟨rfl,h⟩
theorem Cb.off (h:Cb bs at_ bad false xs v j at2 ys)(hj:j<v)(hs:fv xs ys.getLast? (bs.drop at2)=none){j' a:Nat}{zs:List aL}:Cb bs at_ bad true xs v j' a zs:=by
 rcases h with ⟨_,hb,h⟩ | ⟨h,_⟩
 ·
  rw[show v-j=(v-(j+1))+1 from by omega,ph hs]at h;exact .inr ⟨rfl,.inr h⟩
 ·
  cases h
theorem Al {p:Option aL}{s k m a1 a2 a3:Nat}{b1 b2:Bool}(h1:n9 bs at2 false 16 s a1 b1)(h2:n9 bs a1 b1 1000000000 k a2 b2)(h3:n9 bs a2 b2 1000000000 m a3 true):fv xs p (bs.drop at2)=none:=by
 cases b1 with
 | true =>
   rcases h1.no.2 with h | h
   ·
    cases h
   ·
    exact B8 h
 | false =>
   cases b2 with
   | true =>
     rcases h2.no.2 with h | h
     ·
      cases h
     ·
      exact Cc h1.ok.2.2 h
   | false =>
     rcases h3.no.2 with h | h
     ·
      cases h
     ·
      exact Cg h1.ok.2.2 h2.ok.2.2 h
theorem wT {s k m a1 a2 a3:Nat}{b1 b2:Bool}(h1:n9 bs at2 false 16 s a1 b1)(h2:n9 bs a1 b1 1000000000 k a2 b2)(h3:n9 bs a2 b2 1000000000 m a3 false):bh 16 (bs.drop at2)=some (s,bs.drop a1)∧bh 1000000000 (bs.drop a1)=some (k,bs.drop a2)∧bh 1000000000 (bs.drop a2)=some (m,bs.drop a3):=by
 obtain⟨rfl,_,e3⟩:=h3.ok;obtain⟨rfl,_,e2⟩:=h2.ok;exact⟨h1.ok.2.2,e2,e3⟩
theorem Cb.more (h:Cb bs at_ bad false xs v j at2 ys)(hj:j<v){s k m a1 a2 a3:Nat}{b1 b2:Bool}(h1:n9 bs at2 false 16 s a1 b1)(h2:n9 bs a1 b1 1000000000 k a2 b2)(h3:n9 bs a2 b2 1000000000 m a3 false)
 (hr:¬16≤bV ys.getLast?+s) (hh:¬1000000000<bt xs ys.getLast? (bV ys.getLast?+s)+k+m):Cb bs at_ bad false xs v (j+1) a3 (ys++[⟨bV ys.getLast?+s,bt xs ys.getLast? (bV ys.getLast?+s)+k,bt xs ys.getLast? (bV ys.getLast?+s)+k+m⟩]):=by
 obtain⟨e1,e2,e3⟩:=wT h1 h2 h3;rcases h with ⟨_,hb,h⟩ | ⟨h,_⟩
 ·
  refine .inl ⟨rfl,hb,?_⟩;rw[show v-j=(v-(j+1))+1 from by omega,mN (CG e1 hr e2 e3 hh),Option.map_map]at h;rw[h,bH]
  congr 1
  funext q
  simp
 ·
  cases h
theorem Cb.wk (h:Cb bs at_ bad false xs v j at2 ys)(hj:j<v){s k m a1 a2 a3:Nat}{b1 b2 b3:Bool}(h1:n9 bs at2 false 16 s a1 b1)(h2:n9 bs a1 b1 1000000000 k a2 b2)(h3:n9 bs a2 b2 1000000000 m a3 b3)
 (hr:16≤bV ys.getLast?+s∨1000000000<bt xs ys.getLast? (bV ys.getLast?+s)+k+m) {j' a:Nat} {zs:List aL}:Cb bs at_ bad true xs v j' a zs:=by
 refine h.off hj ?_;cases b3 with
 | true=>exact Al h1 h2 h3
 | false =>
   obtain⟨e1,e2,e3⟩:=wT h1 h2 h3;rcases hr with hr | hr
   ·
    exact Cx e1 hr
   ·
    exact Cn e1 e2 e3 hr
theorem zo {p:Option aL}{st:Nat}(hp:p≠none)(h:st=0):bt xs p (bV p+st)=wU p+2:=by
 subst h;cases p with
 | none=>exact absurd rfl hp
 | some q=>unfold bt bV wU;simp
theorem Cb.done (h:Cb bs at_ bad b xs v j at2 ys)(hj:v≤j∨b=true):(b=false∧bad=false∧cL (bs.drop at_)=some (⟨xs,ys⟩,bs.drop at2))∨(b=true∧(bad=true∨cL (bs.drop at_)=none)):=by
 rcases h with ⟨rfl,hb,h⟩ | ⟨rfl,h⟩
 ·
  have hv:v-j=0:=by
   rcases hj with hj | hj
   ·
    omega
   ·
    cases hj
  rw[hv,dG]at h;simp only[Option.map_some,List.append_nil]at h;exact .inl ⟨rfl,hb,h⟩
 ·
  exact .inr ⟨rfl,h⟩
end
def SE (bs:List UInt8)(b:Bool)(v i at1:Nat)(xs:List aS):Prop:=
 (b=false∧fz bs=(dG k9 (v-i) xs.getLast? (bs.drop at1)).map fun q=>(xs++q.1,q.2))∨(b=true∧∀ys r,fz bs=some (ys,r)→bP ys=false)
section
variable {bs:List UInt8} {at1 v i:Nat} {b:Bool} {xs:List aS}
theorem yN {n k:Nat}{l r:List UInt8}(h:bh (n:Int) l=none)(h2:bh 9223372036854775807 l=some (k,r)):n<k:=by
 obtain⟨e1,_,e3⟩:=aW.1 h2;rcases Nat.lt_or_ge n k with hk | hk
 ·
  exact hk
 ·
  rw[aW.2 ⟨e1,by omega,e3⟩]at h;cases h
theorem zP {n k:Nat}{l r:List UInt8}(h:bh (n:Int) l=some (k,r))(hn:n≤9223372036854775807):bh 9223372036854775807 l=some (k,r):=by
 obtain⟨e1,e2,e3⟩:=aW.1 h;exact aW.2 ⟨e1,by omega,e3⟩
theorem SE.start (hb:bs.length≤4000000000)(h:n9 bs 0 false 4000000000 v at1 b):SE bs b v 0 at1 []:=by
 cases b with
 | false =>
   obtain⟨_,_,h2⟩:=h.ok;rw[List.drop_zero]at h2;have h3:=zP (n:=4000000000) h2 (by decide);refine .inl ⟨rfl,?_⟩;rw[Nat.sub_zero,gu h3 rfl];exact jz
 | true =>
   rcases h.no.2 with h0 | h0
   ·
    cases h0
   ·
    rw[List.drop_zero]at h0;refine .inr ⟨rfl,fun ys r hy=>?_⟩;cases e:bh 9223372036854775807 bs with
    | none=>rw[CM e]at hy;cases hy
    | some q =>
      obtain⟨k,r'⟩:=q;have hk:=yN (n:=4000000000) h0 e;have hl:=congrArg List.length (aW.1 e).1;rw[List.length_append]at hl;exact uj e (by omega) ys r hy
theorem yk {p:Option aS}{s k q a1 a2 a3 a4:Nat}{t:List UInt8}{b1 b2 b3:Bool}(h1:n9 bs at1 false 16 s a1 b1)(h2:n9 bs a1 b1 1000000000 k a2 b2)(h3:FW bs a2 b2 24 t a3 b3)(h4:n9 bs a3 b3 1000000 q a4 true):k9 p (bs.drop at1)=none:=by
 cases b1 with
 | true =>
   rcases h1.no.2 with h | h
   ·
    cases h
   ·
    exact Fl h
 | false =>
   cases b2 with
   | true =>
     rcases h2.no.2 with h | h
     ·
      cases h
     ·
      exact AO h1.ok.2.2 h
   | false =>
     cases b3 with
     | true =>
       rcases h3.no.2 with h | h
       ·
        cases h
       ·
        exact A6 h1.ok.2.2 h2.ok.2.2 h
     | false =>
       rcases h4.no.2 with h | h
       ·
        cases h
       ·
        exact BD h1.ok.2.2 h2.ok.2.2 h3.ok.2 h
theorem SE.wk (h:SE bs false v i at1 xs)(hi:i<v)(hs:k9 xs.getLast? (bs.drop at1)=none){i' a:Nat}{zs:List aS}:SE bs true v i' a zs:=by
 rcases h with ⟨_,h⟩ | ⟨h,_⟩
 ·
  rw[show v-i=(v-(i+1))+1 from by omega,ph hs]at h;exact .inr ⟨rfl,dS h⟩
 ·
  cases h
theorem SE.more (h:SE bs false v i at1 xs)(hi:i<v){s k q a1 a2 a3 a4:Nat}{t:List UInt8}{b1 b2 b3:Bool}(h1:n9 bs at1 false 16 s a1 b1)(h2:n9 bs a1 b1 1000000000 k a2 b2)(h3:FW bs a2 b2 24 t a3 b3)(h4:n9 bs a3 b3 1000000 q a4 false)
 (hr:¬(16≤a7 xs.getLast?+s∨1000000000<dw xs.getLast? (a7 xs.getLast?+s)+k)):SE bs false v (i+1) a4 (xs++[⟨a7 xs.getLast?+s,dw xs.getLast? (a7 xs.getLast?+s)+k,str t,q+1⟩]):=by
 obtain⟨rfl,_,e4⟩:=h4.ok;obtain⟨rfl,e3⟩:=h3.ok;obtain⟨rfl,_,e2⟩:=h2.ok;have e1:=h1.ok.2.2;rcases h with ⟨_,h⟩ | ⟨h,_⟩
 ·
  refine .inl ⟨rfl,?_⟩;rw[show v-i=(v-(i+1))+1 from by omega]at h;rw[bH];exact iJ h (BF e1 e2 hr e3 e4)
 ·
  cases h
theorem SE.JM (h:SE bs false v i at1 xs)(hi:i<v){s k q a1 a2 a3 a4:Nat}{t:List UInt8}{b1 b2 b3 b4:Bool}(h1:n9 bs at1 false 16 s a1 b1)(h2:n9 bs a1 b1 1000000000 k a2 b2)(h3:FW bs a2 b2 24 t a3 b3)(h4:n9 bs a3 b3 1000000 q a4 b4)
 (hr:16≤a7 xs.getLast?+s∨1000000000<dw xs.getLast? (a7 xs.getLast?+s)+k) {i' a:Nat} {zs:List aS}:SE bs true v i' a zs:=by
 refine h.wk hi ?_;cases b4 with
 | true=>exact yk h1 h2 h3 h4
 | false =>
   obtain⟨rfl,_,e4⟩:=h4.ok;obtain⟨rfl,e3⟩:=h3.ok;obtain⟨rfl,_,e2⟩:=h2.ok;exact xA h1.ok.2.2 e2 hr
theorem SE.done (h:SE bs b v i at1 xs)(hj:v≤i∨b=true):(b=false∧fz bs=some (xs,bs.drop at1))∨(b=true∧∀ys r,fz bs=some (ys,r)→bP ys=false):=by
 rcases h with ⟨rfl,h⟩ | ⟨rfl,h⟩
 ·
  have hv:v-i=0:=by
   rcases hj with hj | hj
   ·
    omega
   ·
    cases hj
  rw[hv,dG]at h;simp only[Option.map_some,List.append_nil]at h;exact .inl ⟨rfl,h⟩
 ·
  exact .inr ⟨rfl,h⟩
theorem SE.all (h:SE bs b v i at1 xs)(hj:v≤i∨b=true)(ha:at1≤bs.length)(he:b=true∨at1≠bs.length∨bP xs=false):∀ys,fz bs=some (ys,[])→bP ys=false:=fun ys hy=>by
 rcases h.done hj with ⟨rfl,h3⟩ | ⟨_,h3⟩
 ·
  rw[h3]at hy
  injection hy with hy
  obtain⟨rfl,hz⟩:=Prod.mk.inj hy;have:=congrArg List.length hz;rw[List.length_drop,List.length_nil]at this;rcases he with he | he | he
  ·
   cases he
  ·
   omega
  ·
   exact he
 ·
  exact h3 _ _ hy
end
def SR (bs:List UInt8)(b:Bool)(v i at1:Nat)(rs:List bK):Prop:=
 (b=false∧(∀r∈rs,bg r.bx=true)∧fy bs=(dG sa (v-i) rs.getLast? (bs.drop at1)).map fun q=>(rs++q.1,q.2))∨(b=true∧∀ys r,fy bs=some (ys,r)→bZ ys=false)
section
variable {bs:List UInt8} {at1 v i:Nat} {b:Bool} {rs:List bK}
theorem SR.start (hb:bs.length≤4000000000)(h:n9 bs 0 false 4000000000 v at1 b):SR bs b v 0 at1 []:=by
 cases b with
 | false =>
   obtain⟨_,_,h2⟩:=h.ok;rw[List.drop_zero]at h2;have h3:=zP (n:=4000000000) h2 (by decide);refine .inl ⟨rfl,fun r hr=>(by cases hr),?_⟩;rw[Nat.sub_zero,rn h3 rfl];exact jz
 | true =>
   rcases h.no.2 with h0 | h0
   ·
    cases h0
   ·
    rw[List.drop_zero]at h0;refine .inr ⟨rfl,fun ys r hy=>?_⟩;cases e:bh 9223372036854775807 bs with
    | none=>rw[Cr e]at hy;cases hy
    | some q =>
      obtain⟨k,r'⟩:=q;have hk:=yN (n:=4000000000) h0 e;have hl:=congrArg List.length (aW.1 e).1;rw[List.length_append]at hl;exact uU e (by omega) ys r hy
theorem F9 {α:Type}{f:Option α→List UInt8→Option (α×List UInt8)}{n:Nat}{p:Option α}{l l1 r:List UInt8}{x:α}{xs ys:List α}{R:Option (List α×List UInt8)}
 (hq:R=(dG f (n+1) p l).map fun q=>(xs++q.1,q.2)) (h:f p l=some (x,l1)) (hR:R=some (ys,r)):x∈ys:=by
 rw[mN h,Option.map_map]at hq;rw[hR]at hq;cases e:dG f n (some x) l1 with
 | none=>rw[e]at hq;cases hq
 | some q =>
   rw[e]at hq;simp only[Option.map_some,Function.comp]at hq
   injection hq with hq
   obtain⟨rfl,_⟩:=Prod.mk.inj hq;simp
theorem Du {ys:List bK}{x:bK}(hx:x∈ys)(h:eZ x=false):bZ ys=false:=by
 cases e:bZ ys with
 | false=>rfl
 | true=>have:=fX e x hx;rw[h]at this;cases this
theorem BO {s:ByteArray}{p:aI}(h:bg p=false):eZ ⟨s,p⟩=false:=by unfold eZ;simp[h]
theorem Dw {s:ByteArray}{p:aI}(h1:¬s={ data:=#[] })(h2:lE s=false):eZ ⟨s,p⟩=false:=by unfold eZ;simp[h1,h2]
theorem SR.wk (h:SR bs false v i at1 rs)(hi:i<v){t:List UInt8}{q:aI}{a1 a2:Nat}{b1 b2:Bool}(h1:FW bs at1 false 24 t a1 b1)(h2:ym bs a1 b1 q a2 b2)(he:b2=true∨(¬str t={ data:=#[] }∧lE (str t)=false)){i' a:Nat}{zs:List bK}:SR bs true v i' a zs:=by
 rcases h with ⟨_,hn,h⟩ | ⟨h,_⟩
 ·
  rw[show v-i=(v-(i+1))+1 from by omega]at h;refine .inr ⟨rfl,?_⟩;cases b1 with
  | true =>
    rcases h1.no.2 with h0 | h0
    ·
     cases h0
    ·
     exact dS (c6 h (EY h0))
  | false =>
    have e1:=h1.ok.2;cases e2:cL (bs.drop a1) with
    | none=>exact dS (c6 h (EH e1 e2))
    | some z =>
      obtain⟨z,l⟩:=z;intro ys r hy;have hin:=F9 h (Bl e1 e2) hy;refine Du hin ?_;rcases he with rfl | ⟨he1,he2⟩
      ·
       rcases h2.no with h0 | h0
       ·
        cases h0
       ·
        exact BO (h0 z l e2)
      ·
       exact Dw he1 he2
 ·
  cases h
theorem SR.more (h:SR bs false v i at1 rs)(hi:i<v){t:List UInt8}{q:aI}{a1 a2:Nat}{b1:Bool}(h1:FW bs at1 false 24 t a1 b1)(h2:ym bs a1 b1 q a2 false):SR bs false v (i+1) a2 (rs++[⟨str t,q⟩]):=by
 obtain⟨rfl,e2,e3⟩:=h2.ok;have e1:=h1.ok.2;rcases h with ⟨_,hn,h⟩ | ⟨h,_⟩
 ·
  refine .inl ⟨rfl,fun r hr=>?_,?_⟩
  ·
   rcases List.mem_append.1 hr with hr | hr
   ·
    exact hn r hr
   ·
    simp only[List.mem_singleton]at hr;subst hr;exact e3
  ·
   rw[show v-i=(v-(i+1))+1 from by omega]at h;rw[bH];exact iJ h (Bl e1 e2)
 ·
  cases h
theorem SR.done (h:SR bs b v i at1 rs)(hj:v≤i∨b=true):(b=false∧fy bs=some (rs,bs.drop at1))∨(b=true∧∀ys r,fy bs=some (ys,r)→bZ ys=false):=by
 rcases h with ⟨rfl,_,h⟩ | ⟨rfl,h⟩
 ·
  have hv:v-i=0:=by
   rcases hj with hj | hj
   ·
    omega
   ·
    cases hj
  rw[hv,dG]at h;simp only[Option.map_some,List.append_nil]at h;exact .inl ⟨rfl,h⟩
 ·
  exact .inr ⟨rfl,h⟩
theorem SR.all (h:SR bs b v i at1 rs)(hj:v≤i∨b=true)(ha:at1≤bs.length)(he:b=true∨at1≠bs.length∨bZ rs=false):∀ys,fy bs=some (ys,[])→bZ ys=false:=fun ys hy=>by
 rcases h.done hj with ⟨rfl,h3⟩ | ⟨_,h3⟩
 ·
  rw[h3]at hy
  injection hy with hy
  obtain⟨rfl,hz⟩:=Prod.mk.inj hy;have:=congrArg List.length hz;rw[List.length_drop,List.length_nil]at this;rcases he with he | he | he
  ·
   cases he
  ·
   omega
  ·
   exact he
 ·
  exact h3 _ _ hy
end
section
variable {bs:List UInt8} {at_ at2:Nat} {bad b:Bool} {d:aI}
theorem ym.KB (ha:at2≤bs.length)(h1:d.vec.length≤16)(h2:d.ab.length≤bs.length)(h:(b=false∧bad=false∧cL (bs.drop at_)=some (d,bs.drop at2))∨(b=true∧(bad=true∨cL (bs.drop at_)=none)))(hn:bg d=true):ym bs at_ bad d at2 b:=by
 refine⟨ha,h1,h2,?_⟩;rcases h with ⟨rfl,hb,h⟩ | ⟨rfl,h⟩
 ·
  exact .inl ⟨rfl,hb,h,hn⟩
 ·
  exact .inr ⟨rfl,h.imp id fun h q r e=>by rw[h]at e;cases e⟩
theorem ym.Kr (ha:at2≤bs.length)(h1:d.vec.length≤16)(h2:d.ab.length≤bs.length)(h:(b=false∧bad=false∧cL (bs.drop at_)=some (d,bs.drop at2))∨(b=true∧(bad=true∨cL (bs.drop at_)=none)))(hn:bg d=false):ym bs at_ bad d at2 true:=by
 refine⟨ha,h1,h2,.inr ⟨rfl,?_⟩⟩;rcases h with ⟨rfl,hb,h⟩ | ⟨rfl,h⟩
 ·
  exact .inr fun q r e=>by rw[h]at e;cases e;exact hn
 ·
  exact h.imp id fun h q r e=>by rw[h]at e;cases e
end
theorem ym.JB {bs:List UInt8}{a:Nat}{d:aI}(h:ym bs 0 false d a true):∀q,cL bs=some (q,[])→bg q=false:=fun q hq=>by
 rcases h.no with h | h
 ·
  cases h
 ·
  exact h q [] (by rw[List.drop_zero];exact hq)
theorem ym.JH {bs:List UInt8}{a:Nat}{d:aI}(h:ym bs 0 false d a false)(ha:a≠bs.length):∀q,cL bs=some (q,[])→bg q=false:=fun q hq=>by
 have h1:=h.ok.2.1;rw[List.drop_zero,hq]at h1
 injection h1 with h1
 exact absurd (drop_nil h.1 (Prod.mk.inj h1).2.symm) ha
theorem ym.fin {bs:List UInt8}{a:Nat}{d:aI}(h:ym bs 0 false d a false)(ha:a=bs.length):cL bs=some (d,[])∧bg d=true:=by
 have h1:=h.ok.2.1;rw[List.drop_zero,qF ha]at h1;exact⟨h1,h.ok.2.2⟩
theorem SE.fin {bs:List UInt8}{at1 v i:Nat}{xs:List aS}(h:SE bs false v i at1 xs)(hj:v≤i∨false=true)(ha:at1=bs.length):fz bs=some (xs,[]):=by
 rcases h.done hj with ⟨_,h⟩ | ⟨h,_⟩
 ·
  rw[qF ha]at h;exact h
 ·
  cases h
theorem SE.It {bs:List UInt8}{xs:List aS}(h:fz bs=some (xs,[]))(hg:bP xs=true):xs.length * 5≤bs.length:=by
 have h1:=wO hg;have h2:=congrArg List.length (r4.1 h).1;unfold fb at h2;rw[List.append_nil,List.length_append]at h2;omega
theorem SR.fin {bs:List UInt8}{at1 v i:Nat}{rs:List bK}(h:SR bs false v i at1 rs)(hj:v≤i∨false=true)(ha:at1=bs.length):fy bs=some (rs,[]):=by
 rcases h.done hj with ⟨_,h⟩ | ⟨h,_⟩
 ·
  rw[qF ha]at h;exact h
 ·
  cases h
theorem SR.small {bs:List UInt8}{rs:List bK}(h:fy bs=some (rs,[]))(hg:bZ rs=true):rs.length≤bs.length∧∀x∈rs,x.bx.vec.length≤16∧x.bx.ab.length≤bs.length:=by
 have h2:=congrArg List.length (mB.1 h).1;rw[List.append_nil]at h2;have hs:=qL rs;have hn:=oz (rs.map bK.bx);rw[List.length_map]at hn;refine⟨by omega,fun x hx=>⟨?_,?_⟩⟩
 ·
  have:=(o7 (fX hg x hx)).2.len;exact this
 ·
  have:=qM (List.mem_map.2 ⟨x,hx,rfl⟩:x.bx∈rs.map bK.bx);omega
theorem fT (W w:World)(L:List As)(A:Option Addr)(c:Nat)(bs:List UInt8)(v:Nat)(O:Sat W w (row 5 1 (.slice A (bs).length c) (bs).length ((bs).map aj)::L))(hv:v≤9223372036854775807)(hb:bs.length≤140737488355000):Calls Tryz.prog 231 #[.slice A (bs).length c,.int .i64 ((v:Nat):Int)] w fun e w'=>∃A' c',e=.returned (.slice A' (bs++aV v).length c')∧Sat W w' (row 5 1 (.slice A' (bs++aV v).length c') (bs++aV v).length ((bs++aV v).map aj)::L):=by
 refine bS Tryz.func231 [0,1] ?_;refine uC 7 ?_;intro a I;refine wp_loop_ghost (fun (mm:Nat) a w=>∃(A':Option Addr) (c':Nat) (ds:List UInt8) (m:Nat),Ag a 21 [(0,.slice A' (bs++ds).length c'),(1,.int .i64 ((m:Nat):Int))]∧Sat W w (row 5 1 (.slice A' (bs++ds).length c') (bs++ds).length ((bs++ds).map aj)::L)∧(ds++aV m=aV v)∧(m≤v)∧mm=m) v ?_ ?_
 ·replace I:=I.kp [0,1] rfl;rw[←List.append_nil bs]at O I;exact⟨_,_,[],v,I,O,(by rfl),(by omega),by omega⟩
 intro m a w hI;clear O I;obtain⟨A',c',ds,m,I,O,hm,hmv,rfl⟩:=hI;have h9:=cB hv;have hdl:=congrArg List.length hm;rw[List.length_append]at hdl;have hnp:=cm m;refine rC 4 I ?_;clear I a;refine aJ 0 0 (cG rfl rfl) ?_ ?_
 ·intro h6;refine uO 10 ?_;refine u1 0 (gj rfl rfl (by omega) (by omega)) ?_;refine u1 0 (ad rfl rfl) ?_;refine u1 0 (jK rfl pA oa (by omega) (by omega)) ?_;intro a I;refine nZ I rfl rfl bd mX rfl rfl rfl (by simp[Value.oneCell']) O ?_;clear I a O;intro A12 w O;intro a I;refine dq I rfl rfl rfl bd mX rfl (O.p 1) (O.rd.src bd (by simp[Value.oneCell'])) (by simp only[List.length_append];omega) (by simp only[List.length_append];omega) ?_;clear I a O;intro A13 c13 w hc13 O;refine uO 5 ?_;refine u1 3 (kH rfl rfl (by omega) (by omega) (by omega)) ?_;intro a I;replace I:=I.kp [0,1] rfl;have hge:=nI (n:=m) (by omega);have hnc:=kV (x:=m % 128+128) (by omega)
  have e1:(bs++ds).map aj++[Value.int .u8 ((m:Int) % 128+128)]=(bs++(ds++[UInt8.ofNat (m % 128+128)])).map aj:=by rw[show ((m:Int) % 128+128:Int)=((m % 128+128:Nat):Int) from by omega,hnc];simp
  have e2:(bs++ds).length+1=(bs++(ds++[UInt8.ofNat (m % 128+128)])).length:=by simp;try omega
  have e3:((m:Int) / 128)=((m / 128:Nat):Int):=by omega
  rw[e1,e2]at O;rw[e2,e3]at I;have e4:(ds++[UInt8.ofNat (m % 128+128)])++aV (m / 128)=aV v:=by rw[←hm,hge];simp
  have e5:=congrArg List.length e4;have e6:=cm (m / 128);simp only[List.length_append,List.length_cons,List.length_nil]at e5;exact⟨m / 128,by omega,_,_,ds++[UInt8.ofNat (m % 128+128)],m / 128,I,(O.p 1).drop,e4,by omega,rfl⟩
 ·intro h6;refine uO 12 ?_;refine u1 0 (jK rfl pA oa (by omega) (by omega)) ?_;intro a I;refine nZ I rfl rfl bd mX rfl rfl rfl (by simp[Value.oneCell']) O ?_;clear I a O;intro A19 w O;intro a I;refine dq I rfl rfl rfl bd mX rfl (O.p 1) (O.rd.src bd (by simp[Value.oneCell'])) (by simp only[List.length_append];omega) (by simp only[List.length_append];omega) ?_;clear I a O;intro A20 c20 w hc20 O;refine uO 4 ?_;refine aY ?_;have hlt:=ey (n:=m) (by omega);have hnc:=kV (x:=m) (by omega);have e1:(bs++ds).map aj++[Value.int .u8 (m:Int)]=(bs++aV v).map aj:=by rw[hnc,←hm,hlt];simp
  have e2:(bs++ds).length+1=(bs++aV v).length:=by rw[←hm,hlt];simp;try omega
  rw[e1,e2]at O;rw[e2];exact⟨_,_,rfl,(O.p 1).drop⟩
theorem cu (W w:World)(L:List As)(A:Option Addr)(c:Nat)(bs:List UInt8)(v:Int)(O:Sat W w (row 5 1 (.slice A (bs).length c) (bs).length ((bs).map aj)::L))(h0:0≤v)(hv:v≤9223372036854775807)(hb:bs.length≤140737488355000):Calls Tryz.prog 231 #[.slice A (bs).length c,.int .i64 v] w fun e w'=>∃A' c',e=.returned (.slice A' (bs++aV v.toNat).length c')∧Sat W w' (row 5 1 (.slice A' (bs++aV v.toNat).length c') (bs++aV v.toNat).length ((bs++aV v.toNat).map aj)::L):=by
 obtain⟨n,rfl⟩:=Int.eq_ofNat_of_zero_le h0;exact fT W w L A c bs n O (by omega) hb
theorem nF (W w:World)(L:List As)(A:Option Addr)(c:Nat)(bs:List UInt8)(s:ByteArray)(O:Sat W w (row 5 1 (.slice A (bs).length c) (bs).length ((bs).map aj)::L))(hs:s.data.toList.length≤1000000000000)(hb:bs.length≤100000000000000):Calls Tryz.prog 232 #[.slice A (bs).length c,.string s] w fun e w'=>∃A' c',e=.returned (.slice A' (bs++(aV s.data.toList.length++s.data.toList)).length c')∧Sat W w' (row 5 1 (.slice A' (bs++(aV s.data.toList.length++s.data.toList)).length c') (bs++(aV s.data.toList.length++s.data.toList)).length ((bs++(aV s.data.toList.length++s.data.toList)).map aj)::L):=by
 refine bS Tryz.func232 [0,1] ?_;have hsz:=uA s;have hn9:=cB (n:=s.data.toList.length) (by omega);refine uC 9 ?_;refine u1 0 (iW rfl yH) ?_;refine uF rfl (fT _ _ _ _ _ _ s.size O (by omega) (by omega)) ?_;clear O;rintro e w ⟨A9,c9,rfl,O⟩;rw[hsz]at O ⊢;refine uO 10 ?_;intro a I;refine wp_loop_ghost (fun (mm:Nat) a w=>∃(i:Nat) (out:List UInt8) (Ao:Option Addr) (co:Nat),Ag a 23 [(0,.slice Ao (out).length co),(1,.string s),(5,.int .i64 ((i:Nat):Int))]∧Sat W w (row 5 1 (.slice Ao (out).length co) (out).length ((out).map aj)::L)∧(i≤s.data.toList.length)∧(out=bs++(aV s.data.toList.length++s.data.toList.take i))∧(out.length=bs.length+(aV s.data.toList.length).length+i)∧mm=s.data.toList.length-i) s.data.toList.length ?_ ?_
 ·replace I:=I.kp [0,1,5] rfl;exact⟨0,_,_,_,I,O,(by omega),(by simp),(by simp only[List.length_append];omega),by omega⟩
 intro m a w hI;clear O I;obtain⟨i,out,Ao,co,I,O,hi,ho,hol,rfl⟩:=hI;refine rC 5 I ?_;clear I a;refine u1 0 (iW rfl yH) ?_;refine aJ 0 0 (aq rfl rfl) ?_ ?_
 ·intro h13;refine uO 11 ?_;obtain⟨x,hx⟩:∃zz_,s.data.toList[i]?=some zz_:=⟨_,List.getElem?_eq_getElem (by omega)⟩;refine u1 0 (vr rfl rfl yH (by omega) hx) ?_;intro a I;refine nZ I rfl rfl bd mX rfl rfl rfl (by simp[Value.oneCell']) O ?_;clear I a O;intro A20 w O;intro a I;refine dq I rfl rfl rfl bd mX rfl (O.p 1) (O.rd.src bd (by simp[Value.oneCell'])) (by omega) (by omega) ?_;clear I a O;intro A21 c21 w hc21 O;refine uO 6 ?_;refine u1 2 (ad rfl rfl) ?_;intro a I;replace I:=I.kp [0,1,5] rfl;have e1:(out).map aj++[Value.int .u8 (x.toNat:Int)]=(out++[x]).map aj:=by simp[aj]
  have e2:(out).length+1=(out++[x]).length:=by simp
  rw[e1,e2]at O;rw[e2]at I;clear e1 e2;refine⟨s.data.toList.length-(i+1),by omega,i+1,out++[x],_,_,I,(O.p 1).drop,by omega,?_,by simp only[List.length_append,List.length_cons,List.length_nil];omega,rfl⟩;rw[ho,aF hx];simp only[List.append_assoc]
 ·intro h13;refine uO 14 ?_;intro a I;replace I:=I.kp [4] rfl;refine rC 1 I ?_;clear I a;refine aY ?_;obtain rfl:i=s.data.toList.length:=by omega
  rw[List.take_length]at ho;subst ho;exact⟨_,_,rfl,O⟩
theorem pL (W:World)(q:PL)(r:Int)(hp:q.ok W)(h0:0≤r)(hr:r≤1000)(hl:q.d.vec.length≤1000000000000):Calls Tryz.prog 265 #[.agg #[.slice q.va q.d.vec.length q.vc,.slice q.ca q.d.ab.length q.cc],.int .i64 r] W fun e w'=>e=.returned (.int .i64 (ay q.d.vec r.toNat))∧Sat W w' []:=by
 refine bS Tryz.func265 [0,1] ?_;have O:=Sat.start W;obtain⟨va,vc,ca,cc,d⟩:=q;have hpv:kY W va vc d.vec:=hp.vec;intro a I;dsimp only at I hl ⊢;refine rC 2 I ?_;clear I a;refine uB rfl O ?_;clear O;intro b2 w O;refine uO 7 ?_;refine u1 0 (aa rfl cD) ?_;refine u1 0 (ld rfl) ?_;refine u1 0 (ak rfl ax) ?_;refine aJ 0 0 (aq rfl rfl) ?_ ?_
 ·intro h9;refine uO 5 ?_;refine u1 0 (aa rfl cD) ?_;refine u1 1 (ld rfl) ?_;obtain⟨va_p,rfl⟩:∃q,va=some q:=(hpv.sat O).au (by omega);obtain⟨x,hx⟩:∃zz_,d.vec[r.toNat]?=some zz_:=⟨_,List.getElem?_eq_getElem (by omega)⟩;refine u1 0 (ix rfl rfl ax eP) ?_;refine u1 5 (an rfl dA (fP (hpv.sat O) (bu hx))) ?_;refine aY ?_;rw[EA hx];exact⟨rfl,O.drop⟩
 ·intro h9;refine uO 11 ?_;refine aY ?_;rw[DY (by omega)];exact⟨rfl,O.drop⟩
theorem pF (W w:World)(L:List As)(A:Option Addr)(c:Nat)(bs:List UInt8)(q:PL)(O:Sat W w (row 5 1 (.slice A (bs).length c) (bs).length ((bs).map aj)::L))(hp:q.ok W)(hk:DP q.d)(hcl:q.d.ab.length≤1000000000)(hb:bs.length≤1000000000000):Calls Tryz.prog 233 #[.slice A (bs).length c,.agg #[.slice q.va q.d.vec.length q.vc,.slice q.ca q.d.ab.length q.cc]] w fun e w'=>∃A' c',e=.returned (.slice A' (bs++eH q.d).length c')∧Sat W w' (row 5 1 (.slice A' (bs++eH q.d).length c') (bs++eH q.d).length ((bs++eH q.d).map aj)::L):=by
 refine bS Tryz.func233 [0,1] ?_;obtain⟨va,vc,ca,cc,d⟩:=q;have hpv:kY W va vc d.vec:=hp.vec;have hpc:jk W ca cc d.ab:=hp.ab;have hkl:=hk.len;intro a I;dsimp only at hk hcl hkl I ⊢;have hvl:d.vec.length≤16:=hkl;have hn0:=cB (n:=d.vec.length) (by omega);have hnc:=cB (n:=d.ab.length) (by omega);refine rC 2 I ?_;clear I a;refine uB rfl O ?_;clear O;intro b3 w O;refine uO 6 ?_;refine u1 0 (aa rfl cD) ?_;refine u1 0 (ld rfl) ?_;refine u1 0 (ak rfl ax) ?_;refine uF rfl (fT _ _ _ _ _ _ d.vec.length (O.p 1) (by omega) (by omega)) ?_;clear O;rintro e w ⟨A15,c15,rfl,O⟩;refine uO 10 ?_;intro a I
 refine wp_loop_ghost (fun (mm:Nat) a w=>∃(i:Nat) (out:List UInt8) (Ao:Option Addr) (co:Nat),Ag a 86 [(0,.slice Ao (out).length co),(3,.pointer (some ⟨b3,0,none⟩)),(5,.int .i64 ((i:Nat):Int))]∧Sat W w (row 5 1 (.slice Ao (out).length co) (out).length ((out).map aj)::a6 b3 (.cells #[.slice va d.vec.length vc,.slice ca d.ab.length cc] 63)::L)∧(i≤d.vec.length)∧(out=bs++(aV d.vec.length++seqB (kz 1000000000).g none (d.vec.take i)))∧(out.length≤bs.length+9 * (i+1))∧mm=d.vec.length-i) d.vec.length ?_ ?_
 ·replace I:=I.kp [0,3,5] rfl;exact⟨0,_,_,_,I,O,(by omega),(by simp[seqB]),(by simp only[List.length_append];omega),by omega⟩
 intro m a w hI;clear O I;obtain⟨i,out,Ao,co,I,O,hi,ho,hol,rfl⟩:=hI;refine rC 4 I ?_;clear I a;refine u1 0 (aa rfl cD) ?_;refine u1 0 (ld rfl) ?_;refine u1 0 (ak rfl ax) ?_;refine aJ 0 0 (aq rfl rfl) ?_ ?_
 ·intro h20;refine uO 9 ?_;refine u1 0 (aa rfl cD) ?_;refine u1 1 (ld rfl) ?_;obtain⟨va_p,rfl⟩:∃q,va=some q:=(hpv.sat O).au (by omega);obtain⟨x,hx⟩:∃zz_,d.vec[i]?=some zz_:=⟨_,List.getElem?_eq_getElem (by omega)⟩;obtain⟨hx0,hx1⟩:=hk.vec x (List.mem_of_getElem? hx);have hnx:=cB (n:=x.toNat) (by omega);refine u1 0 (ix rfl rfl ax eP) ?_;refine u1 0 (an rfl dA (fP (hpv.sat O) (bu hx))) ?_;refine uF rfl (cu _ _ _ _ _ _ x O (by omega) (by omega) (by omega)) ?_;clear O;rintro e w ⟨A29,c29,rfl,O⟩;refine uO 6 ?_;refine u1 2 (ad rfl rfl) ?_;intro a I;replace I:=I.kp [0,3,5] rfl;refine⟨d.vec.length-(i+1),by omega,i+1,out++aV x.toNat,_,_,I,O,by omega,?_,by simp only[List.length_append];omega,rfl⟩;rw[iG hx,ho];simp only[List.append_assoc]
  rfl
 ·intro h20;refine uO 11 ?_;refine u1 0 (aa rfl cd) ?_;refine u1 0 (ld rfl) ?_;refine u1 0 (ak rfl dt) ?_;refine uF rfl (fT _ _ _ _ _ _ d.ab.length O (by omega) (by omega)) ?_;clear O;rintro e w ⟨A34,c34,rfl,O⟩;refine uO 3 ?_;intro a I;replace I:=I.kp [0,3] rfl;refine rC 13 I ?_;clear I a;intro a I
  refine wp_loop_ghost (fun (mm:Nat) a w=>∃(i:Nat) (out:List UInt8) (Ao:Option Addr) (co:Nat),Ag a 86 [(0,.slice Ao (out).length co),(3,.pointer (some ⟨b3,0,none⟩)),(6,.int .i64 ((bV (ahead none d.ab i)))),(7,.int .i64 ((wU (ahead none d.ab i)))),(8,.int .i64 ((i:Nat):Int))]∧Sat W w (row 5 1 (.slice Ao (out).length co) (out).length ((out).map aj)::a6 b3 (.cells #[.slice va d.vec.length vc,.slice ca d.ab.length cc] 63)::L)∧(i≤d.ab.length)∧(out=bs++(aV d.vec.length++(seqB (kz 1000000000).g none d.vec++(aV d.ab.length++seqB (kv d.vec) none (d.ab.take i)))))∧(out.length≤bs.length+200+27 * i)∧mm=d.ab.length-i) d.ab.length ?_ ?_
  ·replace I:=I.kp [0,3,6,7,8] rfl;exact⟨0,_,_,_,I,O,(by omega),(by rw[ho,List.take_of_length_le (by omega)];simp[seqB]),(by simp only[List.length_append];omega),by omega⟩
  intro m a w hI;clear O I;obtain⟨i,out,Ao,co,I,O,hi,ho,hol,rfl⟩:=hI;refine rC 4 I ?_;clear I a;refine u1 0 (aa rfl cd) ?_;refine u1 0 (ld rfl) ?_;refine u1 0 (ak rfl dt) ?_;refine aJ 0 0 (aq rfl rfl) ?_ ?_
  ·intro h39;refine uO 9 ?_;refine u1 0 (aa rfl cd) ?_;refine u1 1 (ld rfl) ?_;obtain⟨ca_p,rfl⟩:∃q,ca=some q:=(hpc.sat O).au (by omega);obtain⟨s,hs⟩:∃zz_,d.ab[i]?=some zz_:=⟨_,List.getElem?_eq_getElem (by omega)⟩;obtain⟨hs0,hs1,hs2,hs3,hs4,hs5⟩:=jD hk hs;obtain⟨hl0,hl1⟩:=xB hk (i:=i) s.rep;have hp0:=y6 hk i;obtain⟨hh0,hh1⟩:=HC hk i;have hn1:=cB (n:=(s.rep-bV (ahead none d.ab i)).toNat) (by omega);have hn3:=cB (n:=(s.hi-s.lo).toNat) (by omega);have hsl:=yj hk i s hs;have hva:=dv hk.vec s.rep.toNat;refine u1 0 (ix rfl rfl dt cX) ?_;refine u1 0 (aG (cs:=gH s) rfl lr cX (fun j u e=>bQ (hpc.sat O) (dQ hs j u e))) ?_;refine uN nK O ?_;clear O;intro b9 w O;refine uW (vs:=[_,_,_]) (cs':=[_,_,_]) rfl rfl cX O ?_;clear O;intro w O
   refine uO 4 ?_;refine u1 0 (lS (cs:=[_,_]) rfl) ?_;refine u1 0 (aa rfl cj) ?_;refine u1 0 (ld rfl) ?_;refine uF rfl (pL _ ⟨va,vc,some ca_p,cc,d⟩ s.rep (PL.ok.sat hp O) hs0 (by omega) (by show d.vec.length≤_;omega)) ?_;rintro e w ⟨rfl,hT⟩;dsimp only;replace O:Sat _ _ _:=O.ag hT;clear hT;refine u1 7 (ad rfl rfl) ?_;refine aJ 0 0 (cG rfl rfl) ?_ ?_
   ·intro h53;refine uO 1 ?_;refine u1 0 (aa rfl cj) ?_;refine u1 1 (ld rfl) ?_;refine aJ 0 0 (aU rfl rfl) ?_ ?_
    ·intro h58;have hle:=FU (vec:=d.vec) (cl:=d.ab) (r:=s.rep) (show 0<i by omega) (by omega) h58;intro a I;rw[hle]at hl0 hl1 hs5;have hn2:=cB (n:=(s.lo-(wU (ahead none d.ab i)+2)).toNat) (by omega);refine rO 6 I ?_;clear I a;refine u1 6 (ad rfl rfl) ?_;refine u1 0 (aa rfl cj) ?_;refine u1 1 (ld rfl) ?_;refine u1 0 (sb rfl rfl) ?_;refine uF rfl (cu _ _ _ _ _ _ (s.rep-bV (ahead none d.ab i)) (O.p 1) (by omega) (by omega) (by omega)) ?_;clear O;rintro e w ⟨A67,c67,rfl,O⟩;refine uO 6 ?_;refine u1 0 (aa rfl eQ) ?_;refine u1 1 (ld rfl) ?_;refine u1 0 (sb rfl rfl) ?_;refine uF rfl (cu _ _ _ _ _ _ _ O (by omega) (by omega) (by (simp only[List.length_append,List.length_nil];omega))) ?_;clear O;rintro e w ⟨A73,c73,rfl,O⟩
     refine uO 6 ?_;refine u1 0 (aa rfl eE) ?_;refine u1 0 (ld rfl) ?_;refine u1 0 (aa rfl eQ) ?_;refine u1 0 (ld rfl) ?_;refine u1 0 (sb rfl rfl) ?_;refine uF rfl (cu _ _ _ _ _ _ (s.hi-s.lo) O (by omega) (by omega) (by (simp only[List.length_append,List.length_nil];omega))) ?_;clear O;rintro e w ⟨A80,c80,rfl,O⟩;refine uO 3 ?_;intro a I;refine cF (fun w'=>Sat _ w' _) (by kernel_rfl) (by kernel_rfl) O.drew ?_;refine Q1 0 I (fun w O=>(aa (I.ev rfl) cj)) ?_;clear I a;refine bj 0 (fun w O=>(ld rfl)) ?_;refine bj 0 (fun w O=>(aa rfl eE)) ?_;refine bj 2 (fun w O=>(ld rfl)) ?_;intro a I;refine wpQuiet_nil ?_;clear O;intro w O;refine rE 4 I ?_;clear I a;refine u1 2 (ad rfl rfl) ?_;intro a I;replace I:=I.kp [0,3,6,7,8] rfl;have e6:s.rep=bV (ahead none d.ab (i+1)):=by rw[dJ hs];rfl
     have e7:s.hi=wU (ahead none d.ab (i+1)):=by rw[dJ hs];rfl
     refine⟨d.ab.length-(i+1),by omega,i+1,_,_,_,?_,(O.p 1).drop,by omega,?_,by simp only[List.length_append];omega,rfl⟩
     ·rw[←e6,←e7];exact I
     rw[iG hs,ho];unfold kv;rw[hle];simp only[List.append_assoc]
    ·intro h58;have hle:=zH (vec:=d.vec) h58;intro a I;rw[hle]at hl0 hl1 hs5;have hn2:=cB (n:=(s.lo-(ay d.vec s.rep.toNat+2)).toNat) (by omega);refine rO 9 I ?_;clear I a;refine u1 0 (aa rfl cj) ?_;refine u1 1 (ld rfl) ?_;refine u1 0 (sb rfl rfl) ?_;refine uF rfl (cu _ _ _ _ _ _ (s.rep-bV (ahead none d.ab i)) (O.p 1) (by omega) (by omega) (by omega)) ?_;clear O;rintro e w ⟨A67,c67,rfl,O⟩;refine uO 6 ?_;refine u1 0 (aa rfl eQ) ?_;refine u1 1 (ld rfl) ?_;refine u1 0 (sb rfl rfl) ?_;refine uF rfl (cu _ _ _ _ _ _ _ O (by omega) (by omega) (by (simp only[List.length_append,List.length_nil];omega))) ?_;clear O;rintro e w ⟨A73,c73,rfl,O⟩;refine uO 6 ?_;refine u1 0 (aa rfl eE) ?_;refine u1 0 (ld rfl) ?_;refine u1 0 (aa rfl eQ) ?_;refine u1 0 (ld rfl) ?_;refine u1 0 (sb rfl rfl) ?_
     refine uF rfl (cu _ _ _ _ _ _ (s.hi-s.lo) O (by omega) (by omega) (by (simp only[List.length_append,List.length_nil];omega))) ?_;clear O;rintro e w ⟨A80,c80,rfl,O⟩;refine uO 3 ?_;intro a I;refine cF (fun w'=>Sat _ w' _) (by kernel_rfl) (by kernel_rfl) O.drew ?_;refine Q1 0 I (fun w O=>(aa (I.ev rfl) cj)) ?_;clear I a;refine bj 0 (fun w O=>(ld rfl)) ?_;refine bj 0 (fun w O=>(aa rfl eE)) ?_;refine bj 2 (fun w O=>(ld rfl)) ?_;intro a I;refine wpQuiet_nil ?_;clear O;intro w O;refine rE 4 I ?_;clear I a;refine u1 2 (ad rfl rfl) ?_;intro a I;replace I:=I.kp [0,3,6,7,8] rfl;have e6:s.rep=bV (ahead none d.ab (i+1)):=by rw[dJ hs];rfl
     have e7:s.hi=wU (ahead none d.ab (i+1)):=by rw[dJ hs];rfl
     refine⟨d.ab.length-(i+1),by omega,i+1,_,_,_,?_,(O.p 1).drop,by omega,?_,by simp only[List.length_append];omega,rfl⟩
     ·rw[←e6,←e7];exact I
     rw[iG hs,ho];unfold kv;rw[hle];simp only[List.append_assoc]
   ·intro h53;obtain hle:=AK (vec:=d.vec) (cl:=d.ab) (r:=s.rep) (show i=0 by omega);intro a I;rw[hle]at hl0 hl1 hs5;have hn2:=cB (n:=(s.lo-(ay d.vec s.rep.toNat+2)).toNat) (by omega);refine rO 14 I ?_;clear I a;refine u1 0 (aa rfl cj) ?_;refine u1 1 (ld rfl) ?_;refine u1 0 (sb rfl rfl) ?_;refine uF rfl (cu _ _ _ _ _ _ (s.rep-bV (ahead none d.ab i)) (O.p 1) (by omega) (by omega) (by omega)) ?_;clear O;rintro e w ⟨A67,c67,rfl,O⟩;refine uO 6 ?_;refine u1 0 (aa rfl eQ) ?_;refine u1 1 (ld rfl) ?_;refine u1 0 (sb rfl rfl) ?_;refine uF rfl (cu _ _ _ _ _ _ _ O (by omega) (by omega) (by (simp only[List.length_append,List.length_nil];omega))) ?_;clear O;rintro e w ⟨A73,c73,rfl,O⟩
    refine uO 6 ?_;refine u1 0 (aa rfl eE) ?_;refine u1 0 (ld rfl) ?_;refine u1 0 (aa rfl eQ) ?_;refine u1 0 (ld rfl) ?_;refine u1 0 (sb rfl rfl) ?_;refine uF rfl (cu _ _ _ _ _ _ (s.hi-s.lo) O (by omega) (by omega) (by (simp only[List.length_append,List.length_nil];omega))) ?_;clear O;rintro e w ⟨A80,c80,rfl,O⟩;refine uO 3 ?_;intro a I;refine cF (fun w'=>Sat _ w' _) (by kernel_rfl) (by kernel_rfl) O.drew ?_;refine Q1 0 I (fun w O=>(aa (I.ev rfl) cj)) ?_;clear I a;refine bj 0 (fun w O=>(ld rfl)) ?_;refine bj 0 (fun w O=>(aa rfl eE)) ?_;refine bj 2 (fun w O=>(ld rfl)) ?_;intro a I;refine wpQuiet_nil ?_;clear O;intro w O;refine rE 4 I ?_;clear I a;refine u1 2 (ad rfl rfl) ?_;intro a I;replace I:=I.kp [0,3,6,7,8] rfl;have e6:s.rep=bV (ahead none d.ab (i+1)):=by rw[dJ hs];rfl
    have e7:s.hi=wU (ahead none d.ab (i+1)):=by rw[dJ hs];rfl
    refine⟨d.ab.length-(i+1),by omega,i+1,_,_,_,?_,(O.p 1).drop,by omega,?_,by simp only[List.length_append];omega,rfl⟩
    ·rw[←e6,←e7];exact I
    rw[iG hs,ho];unfold kv;rw[hle];simp only[List.append_assoc]
  ·intro h39;refine uO 15 ?_;refine aY ?_;have hie:i=d.ab.length:=by omega
   rw[hie,List.take_length]at ho;rw[show bs++eH d=out from by rw[ho];rfl];exact⟨Ao,co,rfl,(O.p 1).drop⟩
theorem ti (W:World)(q:PL)(hp:q.ok W)(hv:q.d.vec.length≤1000000000000)(hcl:q.d.ab.length≤1000000000):Calls Tryz.prog 183 #[.agg #[.slice q.va q.d.vec.length q.vc,.slice q.ca q.d.ab.length q.cc]] W fun e w'=>∃A' c',e=.returned (.tuple #[.slice A' (if bg q.d=true then eH q.d else []).length c',.int .i64 (if bg q.d=true then 0 else 1)])∧Sat W w' [row 5 1 (.slice A' (if bg q.d=true then eH q.d else []).length c') (if bg q.d=true then eH q.d else []).length ((if bg q.d=true then eH q.d else []).map aj)]:=by
 refine bS Tryz.func183 [0] ?_;have O:=Sat.start W;refine uC 2 ?_;refine uB rfl O ?_;clear O;intro b1 w O;refine uO 7 ?_;refine u1 0 (lS (cs:=[_,_]) rfl) ?_;refine uF rfl (eG _ q (hp.sat O) (by omega) hv) ?_;rintro e w ⟨rfl,hT⟩;replace O:Sat _ _ _:=O.ag hT;clear hT;generalize h5:bg q.d=bb;cases bb
 ·refine u1 11 (aB rfl) ?_;refine fo ?_;simp only[h5,Bool.false_eq_true,if_false];exact⟨none,0,rfl,gy (O.ba 5 1)⟩
 ·refine u1 7 (aB rfl) ?_;refine u1 0 (lS (cs:=[_,_]) rfl) ?_;refine uF rfl (pF _ _ _ none 0 [] q ((O.ba 5 1)) (hp) (jT.1 h5).toDP hcl (by simp)) ?_;clear O;rintro e w ⟨A8,c8,rfl,O⟩;refine uO 5 ?_;refine fo ?_;rw[List.nil_append]at O ⊢;simp only[h5,if_true];exact⟨A8,c8,rfl,gy O⟩
theorem s9 (W:World)(B:Option Addr)(d:Nat)(xs:List aS)(hX:iz W B d xs)(hxl:xs.length≤1000000000):Calls Tryz.prog 182 #[.slice B (xs).length d] W fun e w'=>∃A' c',e=.returned (.tuple #[.slice A' (if bP xs=true then fb xs else []).length c',.int .i64 (if bP xs=true then 0 else 1)])∧Sat W w' [row 5 1 (.slice A' (if bP xs=true then fb xs else []).length c') (if bP xs=true then fb xs else []).length ((if bP xs=true then fb xs else []).map aj)]:=by
 refine bS Tryz.func182 [0] ?_;have O:=Sat.start W;have hn0:=cB (n:=xs.length) (by omega);refine uC 10 ?_;refine uF rfl (lp _ B d xs (hX.sat O) (by omega)) ?_;rintro e w ⟨rfl,hT⟩;replace O:Sat _ _ _:=O.ag hT;clear hT;generalize h10:bP xs=bb;cases bb
 ·refine u1 11 (aB rfl) ?_;refine fo ?_;simp only[h10,Bool.false_eq_true,if_false];exact⟨none,0,rfl,gy (O.ba 5 1)⟩
 ·have hk:=o9 h10;refine u1 8 (aB rfl) ?_;refine u1 0 (ak rfl bC) ?_;refine uF rfl (fT _ _ _ none 0 [] xs.length ((O.ba 5 1)) (by omega) (by simp)) ?_;clear O;rintro e w ⟨A14,c14,rfl,O⟩;refine uO 16 ?_;intro a I;refine wp_loop_ghost (fun (mm:Nat) a w=>∃(i:Nat) (out:List UInt8) (Ao:Option Addr) (co:Nat),Ag a 63 [(0,.slice B (xs).length d),(4,.slice Ao (out).length co),(5,.int .i64 ((a7 (ahead none xs i)))),(6,.int .i64 ((mn (ahead none xs i)-1))),(7,.int .i64 ((i:Nat):Int))]∧Sat W w ([row 5 1 (.slice Ao (out).length co) (out).length ((out).map aj)])∧(i≤xs.length)∧(out=aV xs.length++seqB oe none (xs.take i))∧(out.length≤9+60 * i)∧mm=xs.length-i) xs.length ?_ ?_
  ·replace I:=I.kp [0,4,5,6,7] rfl;exact⟨0,_,_,_,I,O,(by omega),(by simp[seqB]),(by simp only[List.length_append,List.length_nil];omega),by omega⟩
  intro m a w hI;clear O I;obtain⟨i,out,Ao,co,I,O,hi,ho,hol,rfl⟩:=hI;refine rC 5 I ?_;clear I a;refine u1 0 (ak rfl bC) ?_;refine aJ 0 0 (aq rfl rfl) ?_ ?_
  ·intro h18;refine uO 11 ?_;obtain⟨B_p,rfl⟩:∃q,B=some q:=(hX.sat O).au (by omega);obtain⟨x,hx⟩:∃zz_,xs[i]?=some zz_:=⟨_,List.getElem?_eq_getElem (by omega)⟩;have hw:=AE hk hx;intro a I;unfold qq at hw;obtain⟨hw0,hw1,hw2,hw3,hw4,hw5,hw6,hw7,hw8⟩:=hw;have hp0:=yx hk i;obtain⟨hq0,hq1⟩:=Dq hk i x.rep;obtain⟨hq2,hq3⟩:=CO hk i;have hn1:=cB (n:=(x.rep-a7 (ahead none xs i)).toNat) (by omega);have hn3:=cB (n:=x.cM.data.toList.length) (by omega);have hn4:=cB (n:=(x.qy-1).toNat) (by omega);refine o1 0 I (ib (I.ev rfl) (I.ev rfl) bC dH (by omega) (by omega)) ?_;clear I a;refine u1 0 (aC rfl dg) ?_;refine u1 0 (aG (cs:=[.int .i64 x.rep,.int .i64 x.num]) rfl oo gT (fun j u e=>me (hX.sat O) (de hx _ u (jJ x j u e)))) ?_;refine uN Cl O ?_;clear O;intro b8 w O
   refine uW (vs:=[_,_]) (cs':=[_,_]) rfl rfl gT O ?_;clear O;intro w O;refine uO 5 ?_;refine u1 0 (aa rfl bM) ?_;refine u1 1 (ld rfl) ?_;refine aJ 0 0 (aD rfl rfl) ?_ ?_
   ·intro h29;have hnx0:dw (ahead none xs i) x.rep=1:=rW h29;intro a I;rw[hnx0]at hw8;have hn2:=cB (n:=(x.num-0-1).toNat) (by omega);refine rO 10 I ?_;clear I a;refine u1 0 (aa rfl bM) ?_;refine u1 1 (ld rfl) ?_;refine u1 0 (sb rfl rfl) ?_;refine uF rfl (cu _ _ _ _ _ _ (x.rep-a7 (ahead none xs i)) (O.p 1) (by omega) (by omega) (by omega)) ?_;clear O;rintro e w ⟨A35,c35,rfl,O⟩;refine uO 6 ?_;refine u1 0 (aa rfl bX) ?_;refine u1 1 (ld rfl) ?_;refine u1 0 (sb rfl rfl) ?_;refine u1 0 (sb rfl rfl) ?_;refine uF rfl (cu _ _ _ _ _ _ _ O (by omega) (by omega) (by (simp only[List.length_append,List.length_nil];omega))) ?_;clear O;rintro e w ⟨A42,c42,rfl,O⟩;refine uO 8 ?_;refine u1 0 (ix rfl rfl bC dH) ?_;refine u1 0 (aC rfl lQ) ?_;refine u1 0 (an rfl Fa (bQ (hX.sat O) (de hx 2 _ rfl))) ?_
    refine uF rfl (nF _ _ _ _ _ _ x.cM O (by omega) (by (simp only[List.length_append];omega))) ?_;clear O;rintro e w ⟨A49,c49,rfl,O⟩;refine uO 8 ?_;refine u1 0 (ix rfl rfl bC dH) ?_;refine u1 0 (aC rfl jL) ?_;refine u1 0 (an rfl dA (bQ (hX.sat O) (de hx 3 _ rfl))) ?_;refine u1 0 (sb rfl rfl) ?_;refine uF rfl (cu _ _ _ _ _ _ (x.qy-1) O (by omega) (by omega) (by (simp only[List.length_append,List.length_nil];omega))) ?_;clear O;rintro e w ⟨A57,c57,rfl,O⟩;refine uO 3 ?_;intro a I;refine cF (fun w'=>Sat _ w' _) (by kernel_rfl) (by kernel_rfl) O.drew ?_;refine Q1 0 I (fun w O=>(aa (I.ev rfl) bM)) ?_;clear I a;refine bj 0 (fun w O=>(ld rfl)) ?_;refine bj 0 (fun w O=>(aa rfl bX)) ?_;refine bj 2 (fun w O=>(ld rfl)) ?_;intro a I;refine wpQuiet_nil ?_;clear O;intro w O
    refine rE 4 I ?_;clear I a;refine u1 2 (ad rfl rfl) ?_;intro a I;replace I:=I.kp [0,4,5,6,7] rfl;have e6:x.rep=a7 (ahead none xs (i+1)):=by rw[dJ hx];rfl
    have e7:x.num=mn (ahead none xs (i+1))-1:=by rw[dJ hx];show _=x.num+1-1;omega
    have e8:x.num-0-1=x.num-1:=by omega
    refine⟨xs.length-(i+1),by omega,i+1,_,_,_,?_,gy (O.p 1).drop,by omega,?_,by simp only[List.length_append];omega,rfl⟩
    ·rw[←e6,←e7];exact I
    rw[iG hx,ho];unfold oe;rw[hnx0,e8];simp only[List.append_assoc]
   ·intro h29;have hnx0:dw (ahead none xs i) x.rep=mn (ahead none xs i):=ql (by omega);intro a I;rw[hnx0]at hw8;have hn2:=cB (n:=(x.num-(mn (ahead none xs i)-1)-1).toNat) (by omega);refine rO 8 I ?_;clear I a;refine u1 0 (aa rfl bM) ?_;refine u1 1 (ld rfl) ?_;refine u1 0 (sb rfl rfl) ?_;refine uF rfl (cu _ _ _ _ _ _ (x.rep-a7 (ahead none xs i)) (O.p 1) (by omega) (by omega) (by omega)) ?_;clear O;rintro e w ⟨A35,c35,rfl,O⟩;refine uO 6 ?_;refine u1 0 (aa rfl bX) ?_;refine u1 1 (ld rfl) ?_;refine u1 0 (sb rfl rfl) ?_;refine u1 0 (sb rfl rfl) ?_;refine uF rfl (cu _ _ _ _ _ _ _ O (by omega) (by omega) (by (simp only[List.length_append,List.length_nil];omega))) ?_;clear O;rintro e w ⟨A42,c42,rfl,O⟩
    refine uO 8 ?_;refine u1 0 (ix rfl rfl bC dH) ?_;refine u1 0 (aC rfl lQ) ?_;refine u1 0 (an rfl Fa (bQ (hX.sat O) (de hx 2 _ rfl))) ?_;refine uF rfl (nF _ _ _ _ _ _ x.cM O (by omega) (by (simp only[List.length_append];omega))) ?_;clear O;rintro e w ⟨A49,c49,rfl,O⟩;refine uO 8 ?_;refine u1 0 (ix rfl rfl bC dH) ?_;refine u1 0 (aC rfl jL) ?_;refine u1 0 (an rfl dA (bQ (hX.sat O) (de hx 3 _ rfl))) ?_;refine u1 0 (sb rfl rfl) ?_;refine uF rfl (cu _ _ _ _ _ _ (x.qy-1) O (by omega) (by omega) (by (simp only[List.length_append,List.length_nil];omega))) ?_;clear O;rintro e w ⟨A57,c57,rfl,O⟩;refine uO 3 ?_;intro a I;refine cF (fun w'=>Sat _ w' _) (by kernel_rfl) (by kernel_rfl) O.drew ?_;refine Q1 0 I (fun w O=>(aa (I.ev rfl) bM)) ?_;clear I a
    refine bj 0 (fun w O=>(ld rfl)) ?_;refine bj 0 (fun w O=>(aa rfl bX)) ?_;refine bj 2 (fun w O=>(ld rfl)) ?_;intro a I;refine wpQuiet_nil ?_;clear O;intro w O;refine rE 4 I ?_;clear I a;refine u1 2 (ad rfl rfl) ?_;intro a I;replace I:=I.kp [0,4,5,6,7] rfl;have e6:x.rep=a7 (ahead none xs (i+1)):=by rw[dJ hx];rfl
    have e7:x.num=mn (ahead none xs (i+1))-1:=by rw[dJ hx];show _=x.num+1-1;omega
    have e8:x.num-(mn (ahead none xs i)-1)-1=x.num-mn (ahead none xs i):=by omega
    refine⟨xs.length-(i+1),by omega,i+1,_,_,_,?_,gy (O.p 1).drop,by omega,?_,by simp only[List.length_append];omega,rfl⟩
    ·rw[←e6,←e7];exact I
    rw[iG hx,ho];unfold oe;rw[hnx0,e8];simp only[List.append_assoc]
  ·intro h18;refine uO 8 ?_;intro a I;replace I:=I.kp [4] rfl;refine rC 8 I ?_;clear I a;refine fo ?_;have hie:i=xs.length:=by omega
   rw[hie,List.take_length]at ho;have ho:out=fb xs:=ho;subst ho;simp only[h10,if_true];exact⟨_,_,rfl,O⟩
theorem td (W:World)(B:Option Addr)(d:Nat)(rs:List RL)(hR:iF W B d rs)(hE:∀r∈rs,r.p.ok W)(hB:ew 1000000000 rs)(hs:dm (rs.map fun r=>r.p.d)≤1000000000):Calls Tryz.prog 184 #[.slice B (rs).length d] W fun e w'=>∃A' c',e=.returned (.tuple #[.slice A' (if bZ (rs.map RL.d)=true then dO (rs.map RL.d) else []).length c',.int .i64 (if bZ (rs.map RL.d)=true then 0 else 1)])∧Sat W w' [row 5 1 (.slice A' (if bZ (rs.map RL.d)=true then dO (rs.map RL.d) else []).length c') (if bZ (rs.map RL.d)=true then dO (rs.map RL.d) else []).length ((if bZ (rs.map RL.d)=true then dO (rs.map RL.d) else []).map aj)]:=by
 refine bS Tryz.func184 [0] ?_;have O:=Sat.start W;have hrl:=nr hs;have hn0:=cB (n:=rs.length) (by omega);refine uC 10 ?_;refine uF rfl (kF _ B d rs (hR.sat O) (fun r h=>(hE r h).sat O) (hB.mono (by decide)) (by omega)) ?_;rintro e w ⟨rfl,hT⟩;replace O:Sat _ _ _:=O.ag hT;clear hT;generalize h7:bZ (rs.map RL.d)=bb;cases bb
 ·rw[if_neg (by decide)];refine aJ 0 0 (aD rfl rfl) ?_ ?_
  ·intro h8;refine uO 11 ?_;refine fo ?_;simp only[h7,Bool.false_eq_true,if_false];exact⟨none,0,rfl,gy (O.ba 5 1)⟩
  ·intro h8;intro a I;contradiction
 ·rw[if_pos rfl];have hk:=fX h7;have hbm:=p8 hk (by rw[kS];exact hs);rw[kS]at hbm;refine aJ 0 0 (aD rfl rfl) ?_ ?_
  ·intro h8;intro a I;contradiction
  ·intro h8;refine uO 8 ?_;refine u1 0 (ak rfl dk) ?_;refine uF rfl (fT _ _ _ none 0 [] rs.length ((O.ba 5 1)) (by omega) (by simp)) ?_;clear O;rintro e w ⟨A11,c11,rfl,O⟩;refine uO 10 ?_;intro a I;refine wp_loop_ghost (fun (mm:Nat) a w=>∃(i:Nat) (out:List UInt8) (Ao:Option Addr) (co:Nat),Ag a 33 [(0,.slice B (rs).length d),(4,.slice Ao (out).length co),(5,.int .i64 ((i:Nat):Int))]∧Sat W w ([row 5 1 (.slice Ao (out).length co) (out).length ((out).map aj)])∧(i≤rs.length)∧(out=aV rs.length++seqB mT none ((rs.map RL.d).take i))∧mm=rs.length-i) rs.length ?_ ?_
   ·replace I:=I.kp [0,4,5] rfl;exact⟨0,_,_,_,I,O,(by omega),(by simp[seqB]),by omega⟩
   intro m a w hI;clear O I;obtain⟨i,out,Ao,co,I,O,hi,ho,rfl⟩:=hI;refine rC 5 I ?_;clear I a;refine u1 0 (ak rfl dk) ?_;refine aJ 0 0 (aq rfl rfl) ?_ ?_
   ·intro h15;refine uO 12 ?_;obtain⟨B_p,rfl⟩:∃q,B=some q:=(hR.sat O).au (by omega);obtain⟨x,hx⟩:∃zz_,rs[i]?=some zz_:=⟨_,List.getElem?_eq_getElem (by omega)⟩;have hw:=o7 (hk x.d (List.mem_of_getElem? (bT hx)));obtain⟨hw0,hw1⟩:=hw;have hw2:x.cM.data.toList.length≤24:=hw0;have hxo:=hE x (List.mem_of_getElem? hx);obtain⟨hxv,hxc⟩:=hB.get hx;have hsm:=BV (g:=mT) (rs.map RL.d) none (i+1);intro a I;rw[iG (bT hx),List.length_append]at hsm;have hrg:(mT (ahead none (rs.map RL.d) i) x.d).length=(aV x.cM.data.toList.length).length+(x.cM.data.toList.length+(eH x.p.d).length):=by unfold mT;simp only[List.length_append];rfl
    have hol:out.length=(aV rs.length).length+(seqB mT none ((rs.map RL.d).take i)).length:=by rw[ho];simp only[List.length_append]
    have hlr:(dO (rs.map RL.d)).length=(aV rs.length).length+(seqB mT none (rs.map RL.d)).length:=by unfold dO;rw[List.length_append,List.length_map]
    refine o1 0 I (ib (I.ev rfl) (I.ev rfl) dk cA (by omega) (by omega)) ?_;clear I a;refine u1 0 (aC rfl cf) ?_;refine u1 0 (an rfl Fa (bQ (hR.sat O) (df hx 0 _ rfl))) ?_;refine uF rfl (nF _ _ _ _ _ _ x.cM O (by omega) (by omega)) ?_;clear O;rintro e w ⟨A24,c24,rfl,O⟩;refine uO 7 ?_;refine u1 0 (ix rfl rfl dk cA) ?_;refine u1 0 (aC rfl bN) ?_;refine u1 0 (aG (cs:=[.slice x.p.va x.p.d.vec.length x.p.vc,.slice x.p.ca x.p.d.ab.length x.p.cc]) rfl cS aO (fun j u e=>me (hR.sat O) (df hx _ u (oX x j u e)))) ?_;refine uF rfl (pF _ _ _ _ _ _ x.p O hxo hw1.toDP hxc (by simp only[List.length_append];omega)) ?_;clear O;rintro e w ⟨A31,c31,rfl,O⟩;refine uO 6 ?_;refine u1 2 (ad rfl rfl) ?_;intro a I;replace I:=I.kp [0,4,5] rfl
    refine⟨rs.length-(i+1),by omega,i+1,_,_,_,I,O,by omega,?_,rfl⟩;rw[iG (bT hx),ho];unfold mT;simp only[List.append_assoc]
    rfl
   ·intro h15;refine uO 8 ?_;intro a I;replace I:=I.kp [4] rfl;refine rC 8 I ?_;clear I a;refine fo ?_;have hie:i=rs.length:=by omega
    rw[hie,List.take_of_length_le (by simp)]at ho;have ho:out=dO (rs.map RL.d):=by rw[ho];unfold dO;rw[List.length_map]
    subst ho;simp only[h7,if_true];exact⟨_,_,rfl,O⟩
theorem cP (W w:World)(L:List As)(s:Nat)(A:Option Addr)(c:Nat)(bs:List UInt8)(at_:Nat)(bad:Bool)(mo:Int)(O:Sat W w (a6 s (.cells #[.slice A bs.length c,.int .i64 (at_:Int),.bool bad] 352)::L))(hat:at_≤bs.length)(hb:bs.length≤1000000000000)(hR:∀w,Sat W w L→Rd w 1 (.slice A bs.length c) bs.length (bs.map aj))(hm0:0≤mo)(hm:mo<4398046511104):Calls Tryz.prog 239 #[.pointer (some ⟨s,0,none⟩),.int .i64 mo] w fun e w'=>∃(v at':Nat) (b:Bool),e=.returned (.int .i64 ((v:Nat):Int))∧Sat W w' (a6 s (.cells #[.slice A bs.length c,.int .i64 (at':Int),.bool b] 352)::L)∧n9 bs at_ bad mo v at' b:=by
 refine bS Tryz.func239 [0,1] ?_;refine uC 14 ?_;refine u1 0 (bc rfl) ?_;refine u1 0 (aa rfl fp) ?_;refine u1 10 (ld rfl) ?_;intro a I;refine wp_loop_ghost (fun (mm:Nat) a w=>∃(acc wt i:Nat),Ag a 88 [(0,.pointer (some ⟨s,0,none⟩)),(1,.int .i64 mo),(5,.int .i64 ((acc:Nat):Int)),(6,.int .i64 ((wt:Nat):Int)),(7,.int .i64 ((at_:Nat):Int)),(8,.int .i64 ((i:Nat):Int))]∧Sat W w (a6 s (.cells #[.slice A bs.length c,.int .i64 ((at_+i:Nat):Int),.bool bad] 352)::L)∧(i≤6)∧(at_+i≤bs.length)∧(acc<wt)∧(jt wt i)∧(gi 9 0 (bs.drop at_)=lift acc wt i (gi (9-i) i (bs.drop (at_+i))))∧mm=6-i) 6 ?_ ?_
 ·replace I:=I.kp [0,1,5,6,7,8] rfl;exact⟨0,1,0,I,O,(by omega),(by omega),(by omega),(by exact jt.zero),(by exact vy _ _),by omega⟩
 intro m a w hI;clear O I;obtain⟨acc,wt,i,I,O,hi,hai,hac,hw,hI,rfl⟩:=hI;refine rC 4 I ?_;clear I a;refine aJ 0 0 (aq rfl rfl) ?_ ?_
 ·intro h15;refine uO 2 ?_;refine u1 0 (bc rfl) ?_;refine u1 0 (aa rfl db) ?_;refine j4 0 0 (ld rfl) ?_ ?_
  ·intro h20;refine u1 9 (aB rfl) ?_;intro a I;replace I:=I.kp [0] rfl;refine rC 3 I ?_;clear I a;refine u1 0 (bc rfl) ?_;refine u1 0 (aa rfl db) ?_;intro a I;refine kK I rfl rfl tA wq rfl O rfl ?_;clear O;intro w O;refine rO 8 I ?_;clear I a;refine aY ?_;exact⟨0,at_+i,true,rfl,O,oP (by omega) (.inl h20)⟩
  ·intro h20;refine u1 10 (aB rfl) ?_;intro a I;refine cF (fun w'=>Sat _ w' _) (by kernel_rfl) (by kernel_rfl) O.drew ?_;refine rQ 1 I ?_;clear I a;refine bj 0 (fun w O=>(bc rfl)) ?_;refine bj 0 (fun w O=>(aa rfl fp)) ?_;refine bj 1 (fun w O=>(ld rfl)) ?_;refine bj 0 (fun w O=>(bc rfl)) ?_;refine bj 0 (fun w O=>(aa rfl qJ)) ?_;refine bj 0 (fun w O=>(ld rfl)) ?_;refine bj 0 (fun w O=>(ak rfl bd)) ?_;intro a I;refine K.sE I rfl rfl rfl (fun w O=>(dF (I.ev rfl) (I.ev rfl))) ?_ ?_
   ·clear I a;intro h34;intro a I;refine wpQuiet_nil ?_;clear O;intro w O;refine rE 5 I ?_;clear I a;refine u1 0 (bc rfl) ?_;refine u1 0 (aa rfl db) ?_;intro a I;refine kK I rfl rfl tA wq rfl O rfl ?_;clear O;intro w O;refine rO 14 I ?_;clear I a;refine aY ?_;exact⟨0,at_+i,true,rfl,O,oP (by omega) (.inr (nh (by rw[fW (by omega) (by omega) hI];decide)))⟩
   ·clear I a;intro h34;intro a I;refine wpQuiet_nil ?_;clear O;intro w O;refine rE 5 I ?_;clear I a;intro a I;refine cF (fun w'=>Sat _ w' _) (by kernel_rfl) (by kernel_rfl) O.drew ?_;refine rQ 1 I ?_;clear I a;refine bj 0 (fun w O=>(bc rfl)) ?_;refine bj 0 (fun w O=>(aa rfl qJ)) ?_;refine bj 1 (fun w O=>(ld rfl)) ?_;refine bj 0 (fun w O=>(bc rfl)) ?_;refine bj 0 (fun w O=>(aa rfl fp)) ?_;refine bj 0 (fun w O=>(ld rfl)) ?_;obtain⟨A_p,rfl⟩:∃q,A=some q:=(hR _ O.drop).au (by omega);obtain⟨x,hx⟩:∃zz_,bs[at_+i]?=some zz_:=⟨_,List.getElem?_eq_getElem (by omega)⟩;have hxl:=w9 x
    refine bj 0 (fun w O=>(ix rfl rfl bd sL)) ?_;refine bj 0 (fun w O=>(an rfl Az (fP (hR _ O.drop) (bu hx)))) ?_;refine bj 1 (fun w O=>(nk rfl oa pA (by simp only[IntKind.min,IntKind.signed,IntKind.bits];omega) (by simp only[IntKind.max,IntKind.signed,IntKind.bits];omega))) ?_;intro a I;refine wpQuiet_nil ?_;clear O;intro w O;refine rE 4 I ?_;clear I a;refine u1 0 (bc rfl) ?_;refine u1 0 (aa rfl fp) ?_;refine u1 0 (ld rfl) ?_;refine u1 0 (aw (ad rfl rfl) (show _=Value.int .i64 ((at_+i+1:Nat):Int) from congrArg (Value.int .i64) (by omega))) ?_;refine u1 0 (bc rfl) ?_;refine u1 0 (aa rfl fp) ?_;intro a I;refine kK I rfl rfl dA eP rfl O rfl ?_;clear O;intro w O;refine rO 6 I ?_;clear I a
    refine u1 1 (aw (gj rfl rfl (by omega) (by omega)) (show _=Value.int .i64 ((x.toNat % 128:Nat):Int) from congrArg (Value.int .i64) (by omega))) ?_;have hm6:=JN (x:=x.toNat % 128) (by omega) hw (by omega);obtain⟨hw1,hw2⟩:=uS hw (by omega);refine u1 0 (aw (l9 rfl rfl (by rw[←Int.natCast_mul];omega) (by rw[←Int.natCast_mul];omega)) (show _=Value.int .i64 ((x.toNat % 128 * wt:Nat):Int) from by rw[Int.natCast_mul])) ?_;refine u1 6 (aw (ad rfl rfl) (show _=Value.int .i64 ((acc+x.toNat % 128 * wt:Nat):Int) from by rw[Int.natCast_add])) ?_;refine u1 6 (aw (l9 rfl rfl (by omega) (by omega)) (show _=Value.int .i64 ((wt * 128:Nat):Int) from by rw[Int.natCast_mul];rfl)) ?_;refine aJ 0 0 (aq rfl rfl) ?_ ?_
    ·intro h65;refine uO 5 ?_;intro a I;refine bf [] O (by kernel_rfl) ?_;replace O:=O.drew;refine rX [0,1] I ?_;clear I a;have hse:=Ex (mo:=mo) (by omega) hx (by omega) hac hw hI;have hal:=yD hac (show x.toNat % 128<128 by omega);intro a I;refine K.zh 2 I pk rfl rfl rfl rfl (by kernel_rfl) (by kernel_rfl) (by kernel_rfl) (fun w=>(cG (I.ev rfl) (I.ev rfl))) ?_ ?_
     ·clear I a;intro h68;refine uX [3,4,5,6,7,8,9,10,11,12,13,14] ?_;intro a I;refine ah (by kernel_rfl) ?_ _;refine rE 5 I ?_;clear I a;refine u1 0 (bc rfl) ?_;refine u1 0 (aa rfl db) ?_;intro a I;refine kK I rfl rfl tA wq rfl O rfl ?_;clear O;intro w O;refine rO 14 I ?_;clear I a;refine aY ?_;exact⟨0,at_+i+1,true,rfl,(O),oP (by omega) (.inr (hse.1 (.inl (by omega))))⟩
     ·clear I a;intro h68;refine uX [3,4,7] ?_;refine bF 8 [] rfl (fun w=>(bc rfl)) ?_;refine bF 9 [] rfl (fun w=>(aa rfl fp)) ?_;refine cZ 10 [11] rfl (by exact⟨[],O⟩) (fun w hT=>have O:=hT.sat;(ld rfl)) ?_;refine bF 12 [] rfl (fun w=>(sb rfl rfl)) ?_;intro a I;refine aE 5 (by kernel_rfl) ?_;refine Fb I rfl (aT I rfl rfl rfl) rfl HV rfl (fT _ _ _ none 0 [] (acc+x.toNat % 128 * wt) (O.ba 5 1) (by omega) (by simp)) ?_;clear I a;clear O;rintro e w ⟨A71,c71,rfl,O⟩;rw[List.nil_append]at O ⊢;refine⟨_,rfl,?_⟩;intro a I;refine⟨.inr fun _=>(by exact⟨[_],O⟩),?_⟩;refine P1 6 [] I rfl (fun w=>(ak (I.ev rfl) bd)) ?_;clear I a;intro a I;refine K.DE 13 I pk rfl (aT I rfl rfl rfl) rfl rfl (by kernel_rfl) (by kernel_rfl) (by kernel_rfl) (fun w=>(aD (I.ev rfl) (I.ev rfl))) ?_ ?_
      ·clear I a;intro h79;refine uX [14] ?_;intro a I;refine ah (by kernel_rfl) ?_ _;refine rE 5 I ?_;clear I a;refine u1 0 (bc rfl) ?_;refine u1 0 (aa rfl db) ?_;intro a I;refine kK I rfl rfl tA wq rfl (O.p 1) rfl ?_;clear O;intro w O;refine rO 14 I ?_;clear I a;refine aY ?_;exact⟨0,at_+i+1,true,rfl,(O.p 1).drop,oP (by omega) (.inr (hse.1 (.inr (by omega))))⟩
      ·clear I a;intro h79;refine uX [14] ?_;intro a I;refine ah (by kernel_rfl) ?_ _;refine rE 16 I ?_;clear I a;refine aY ?_;exact⟨acc+x.toNat % 128 * wt,at_+i+1,bad,rfl,O.drop,by omega,by omega,.inl ⟨h20,h20,by omega,hse.2 (by omega) (by omega)⟩⟩
    ·intro h65;refine uO 8 ?_;refine u1 2 (ad rfl rfl) ?_;intro a I;replace I:=I.kp [0,1,5,6,7,8] rfl;exact⟨6-(i+1),by omega,acc+x.toNat % 128 * wt,wt * 128,i+1,I,O,by omega,by omega,yD hac (by omega),hw.succ,by rw[hI];exact tv (by omega) hx (by omega),rfl⟩
 ·intro h15;refine uO 15 ?_;intro a I;replace I:=I.kp [0] rfl;refine rC 3 I ?_;clear I a;refine u1 0 (bc rfl) ?_;refine u1 0 (aa rfl db) ?_;intro a I;refine kK I rfl rfl tA wq rfl O rfl ?_;clear O;intro w O;refine rO 8 I ?_;clear I a;refine aY ?_;obtain rfl:i=6:=by omega
  exact⟨0,at_+6,true,rfl,O,oP (by omega) (.inr (Fq hw (by omega) hI))⟩
theorem oG (W w:World)(L:List As)(s:Nat)(A:Option Addr)(c:Nat)(bs:List UInt8)(at_:Nat)(bad:Bool)(mo:Int)(O:Sat W w (a6 s (.cells #[.slice A bs.length c,.int .i64 (at_:Int),.bool bad] 352)::L))(hat:at_≤bs.length)(hb:bs.length≤1000000000000)(hR:∀w,Sat W w L→Rd w 1 (.slice A bs.length c) bs.length (bs.map aj))(hm0:0≤mo)(hm:mo<4398046511104):Calls Tryz.prog 240 #[.pointer (some ⟨s,0,none⟩),.int .i64 mo] w fun e w'=>∃(t:List UInt8) (at':Nat) (b:Bool),e=.returned (.string (str t))∧Sat W w' (a6 s (.cells #[.slice A bs.length c,.int .i64 (at':Int),.bool b] 352)::L)∧FW bs at_ bad mo t at' b:=by
 refine bS Tryz.func240 [0,1] ?_;refine uC 9 ?_;refine uF rfl (cP _ _ _ s A c bs at_ bad mo O hat hb hR hm0 hm) ?_;clear O;rintro e w ⟨v9,a9,b9,rfl,O,hn9⟩;obtain⟨hl9,hv9⟩:=hn9.le;obtain⟨_,c_,hc0,hcc⟩:=(hR _ O.drop).form;have hcc:bs.length≤c:=by injection hc0;omega
 refine uO 5 ?_;intro a I;refine cF (fun w'=>Sat _ w' _) (by kernel_rfl) (by kernel_rfl) O.drew ?_;refine rQ 1 I ?_;clear I a;refine bj 0 (fun w O=>(bc rfl)) ?_;refine bj 0 (fun w O=>(aa rfl db)) ?_;intro a I;refine K.Ky I rfl rfl rfl (fun w O=>(an (I.ev rfl) tA (by exact O.cell rfl))) ?_ ?_
 ·clear I a;intro h13;intro a I;subst h13;refine rQ 14 I ?_;clear I a;intro a I;refine wpQuiet_nil ?_;clear O;intro w O;refine rE 5 I ?_;clear I a;refine u1 0 (bc rfl) ?_;refine u1 0 (aa rfl db) ?_;intro a I;refine kK I rfl rfl tA wq rfl O rfl ?_;clear O;intro w O;refine rO 2 I ?_;clear I a;intro a I;replace I:=I.kp [0,4,5] rfl;refine rC 7 I ?_;clear I a;refine aY ?_;exact⟨[],a9,true,rfl,O,hl9,.inr ⟨rfl,rfl,hn9.no.2.imp id BZ⟩⟩
 ·clear I a;intro h13;intro a I;subst h13;refine rQ 3 I ?_;clear I a;refine bj 0 (fun w O=>(bc rfl)) ?_;refine bj 0 (fun w O=>(aa rfl qJ)) ?_;refine bj 0 (fun w O=>(ld rfl)) ?_;refine bj 1 (fun w O=>(ak rfl bd)) ?_;refine bj 0 (fun w O=>(bc rfl)) ?_;refine bj 0 (fun w O=>(aa rfl fp)) ?_;refine bj 0 (fun w O=>(ld rfl)) ?_;refine bj 0 (fun w O=>(sb rfl rfl)) ?_;intro a I;refine K.oU I (aT I rfl rfl rfl) rfl rfl (fun w O=>(cG (I.ev rfl) (I.ev rfl))) ?_ ?_
  ·clear I a;intro h26;refine uQ 1 ?_;intro a I;refine wpQuiet_nil ?_;clear O;intro w O;refine rE 5 I ?_;clear I a;refine u1 0 (bc rfl) ?_;refine u1 0 (aa rfl db) ?_;intro a I;refine kK I rfl rfl tA wq rfl O rfl ?_;clear O;intro w O;refine rO 9 I ?_;clear I a;refine aY ?_;exact⟨[],a9,true,rfl,O,hl9,.inr ⟨rfl,rfl,.inr (CE hn9.ok.2.2 (by rw[List.length_drop];omega))⟩⟩
  ·clear I a;intro h26;refine uQ 1 ?_;intro a I;refine wpQuiet_nil ?_;clear O;intro w O;refine rE 5 I ?_;clear I a;intro a I;refine cF (fun w'=>Sat _ w' _) (by kernel_rfl) (by kernel_rfl) O.drew ?_;refine rQ 1 I ?_;clear I a
   refine bj 0 (fun w O=>(bc rfl)) ?_;refine bj 0 (fun w O=>(aa rfl qJ)) ?_;refine bj 1 (fun w O=>(ld rfl)) ?_;refine bj 0 (fun w O=>(bc rfl)) ?_;refine bj 0 (fun w O=>(aa rfl fp)) ?_;refine bj 1 (fun w O=>(ld rfl)) ?_;refine bj 0 (fun w O=>(bc rfl)) ?_;refine bj 0 (fun w O=>(aa rfl fp)) ?_;refine bj 1 (fun w O=>(ld rfl)) ?_;refine bj 0 (fun w O=>(aw (ad rfl rfl) (show _=Value.int .i64 ((a9+v9:Nat):Int) from congrArg (Value.int .i64) (by omega)))) ?_;refine bj 0 (fun w O=>(aw (iq rfl rfl rfl bd sL (by omega) (by omega) (by omega)) (jC (bs:=bs) (n:=v9) rfl (by omega)))) ?_;refine bj 1 (fun w O=>(Cj rfl bd oa yH (gg (hR _ O.drop) a9 v9 (by omega)))) ?_;intro a I;refine wpQuiet_nil ?_;clear O;intro w O;refine rE 1 I ?_;clear I a;intro a I
   replace I:=I.kp [0,4,5,6] rfl;refine rC 3 I ?_;clear I a;refine u1 0 (bc rfl) ?_;refine u1 0 (aa rfl fp) ?_;refine u1 1 (ld rfl) ?_;refine u1 0 (aw (ad rfl rfl) (show _=Value.int .i64 ((a9+v9:Nat):Int) from congrArg (Value.int .i64) (by omega))) ?_;refine u1 0 (bc rfl) ?_;refine u1 0 (aa rfl fp) ?_;intro a I;refine kK I rfl rfl dA eP rfl O rfl ?_;clear O;intro w O;refine rO 9 I ?_;clear I a;refine aY ?_;exact⟨(bs.drop a9).take v9,a9+v9,false,rfl,O,by omega,.inl ⟨rfl,hn9.ok.1,B2 hn9.ok.2.2 (by omega)⟩⟩
end Go.Proofs.YtkjabaihpkbfhaaGreat.Wk
