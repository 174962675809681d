/- Texts of our own that a row leans on, put together. No condition of their own. -/
import Derived.Test.YtkjabaihpkbfhaaGreatMRowSaveThere5
set_option linter.unusedVariables false
set_option linter.unusedSimpArgs false
set_option maxRecDepth 100000
set_option maxHeartbeats 2000000
namespace Go.Proofs.YtkjabaihpkbfhaaGreat.Wk
open Go Go.RowKit Go.Proofs.YtkjabaihpkbfhaaGreat Go.Proofs.YtkjabaihpkbfhaaGreat.K Go.Proofs.YtkjabaihpkbfhaaGreat.T
theorem Bl (W:World)(d:aC)(A:Option Addr)(c:Nat)(bs:List UInt8)(hp:d.ok W)(hs0:d.small)(hi1:ij ay d.d1=true→(aQ 1 d.d1).length≤12000000)(hi2:ij bq d.d2=true→(aQ 2 d.d2).length≤12000000)(hb:bs.length≤2097152)(hR:Rd W 1 (.slice A bs.length c) bs.length (bs.map ai)):Calls Tryz.prog 5 #[.agg #[.int .i64 d.self,.int .i64 d.next,.slice d.a d.hs.length d.c],.slice A (bs).length c] W fun e w'=>e=.returned (.bool true)∧Sat W w' []:=by
 refine bP Tryz.func5 [0,1] ?_;have O:=Sat.start W;obtain⟨self,next,ka,kc,hs⟩:=d;intro a I;dsimp only at I ⊢;refine rC 2 I ?_;clear I a;refine uB rfl O ?_;clear O;intro b2 w O;refine uO 6 ?_;refine uF rfl (u4 _) ?_;rintro e w ⟨rfl,hT⟩;replace O:Sat _ _ _:=O.ag hT;clear hT;refine nk 0 0 (aF rfl) ?_ ?_
 ·intro h14;intro a I;simp only[decide_eq_decide,decide_eq_true_eq,decide_eq_false_iff_not,Bool.not_eq_true',Bool.not_eq_false',bne_iff_ne,ne_eq,beq_iff_eq,Bool.not_eq_true,Bool.not_eq_false]at h14;contradiction
 ·intro h14;intro a I;simp only[decide_eq_decide,decide_eq_true_eq,decide_eq_false_iff_not,Bool.not_eq_true',Bool.not_eq_false',bne_iff_ne,ne_eq,beq_iff_eq,Bool.not_eq_true,Bool.not_eq_false]at h14;refine rO 12 I ?_;clear I a;intro a I;refine wp_loop_rounds 3 ?_;refine a6 ?_;refine rC 4 I ?_;clear I a;refine u1 5 (dO (dT rfl rfl) (by omega)) ?_;intro a I;refine cf (fun a w=>Ag a 122 [(1,.slice A (bs).length c),(2,.pointer (some ⟨b2,0,none⟩)),(4,.bool false),(5,.int .i64 1)]∧Sat W w ([aV b2 (.cells #[.int .i64 self,.int .i64 next,.slice ka hs.length kc] 24)])) ?_ ?_
  ·refine rC 4 I ?_;clear I a;refine u1 0 (lS (cs:=[_,_,_]) rfl) ?_;refine uF rfl (pf _ (⟨self,next,ka,kc,hs⟩:aC) (hp.sat O) hs0) ?_;rintro e w (⟨hkT,A9,c9,rfl,hT⟩ | ⟨hkT,rfl,hT⟩)
   ·replace O:=O.ar hT;clear hT;have hl9:=hi1 hkT;have hc9:(aQ 1 (aC.d1 (⟨self,next,ka,kc,hs⟩:aC))).length≤c9:=(by obtain⟨_,_,h0,h1⟩:=O.rd.form;injection h0;omega);refine uO 1 ?_;refine u1 0 (aj rfl rfl) ?_;refine u1 8 (aj rfl rfl) ?_;refine u1 0 (lS (cs:=[_,_,_]) rfl) ?_;refine uF rfl (mG _ (⟨self,next,ka,kc,hs⟩:aC) (hp.sat O) hs0) ?_;rintro e w ⟨he,hT⟩;rw[hkT]at he;subst he
    ·replace O:Sat _ _ _:=O.ag hT;clear hT;refine u1 9 (aF rfl) ?_;refine uF rfl (fe _ A9 c9 (aQ 1 (aC.d1 (⟨self,next,ka,kc,hs⟩:aC))) (by omega) O.rd) ?_;rintro e w hq;obtain⟨⟨ks6,kn6,ka6,kc6,kh6⟩,hkd6,hsm6,hoz6,rfl,hT⟩:=yv (k:=1) (f:=ay) (D:=aC.d1) (by decide) (fun d hd=>hd) hkT rfl (by omega) hq;clear hq;dsimp only at hT hoz6 ⊢;replace O:Sat _ _ (_::_::_):=O.ag hT;clear hT;refine uO 1 ?_;refine u1 0 (aj rfl rfl) ?_;refine u1 0 (aj rfl rfl) ?_;refine uN qB O ?_;clear O;intro b8 w O;refine uW (vs:=[_,_,_]) (cs':=[_,_,_]) rfl rfl gz O ?_;clear O;intro w O;refine uO 6 ?_;refine u1 1 (aI (sb rfl rfl) (show _=Value.int .i64 2 from rfl)) ?_;refine uF rfl (eX _ A9 c9 (aQ 1 (aC.d1 (⟨self,next,ka,kc,hs⟩:aC))) (by omega) (O.p 3).rd) ?_
     rintro e w (⟨⟨ks7,kn7,ka7,kc7,kh7⟩,hok7,hbs7,hsm7,hoz7,rfl,hT⟩ | ⟨hno7,⟨ks7,kn7,ka7,kc7,kh7⟩,hkd7,hnil7,rfl,hT⟩)
     ·dsimp only at hT hoz7 ⊢;replace O:Sat _ _ (_::_::_):=O.ag hT;clear hT;have hd0:hs.length=0:=(by have h:=congrArg List.length (vW (by decide) (by decide) (by decide) hkT hok7 (by omega) hbs7);simpa[aC.d1]using h);refine uO 1 ?_;refine u1 0 (aj rfl rfl) ?_;refine u1 0 (aj rfl rfl) ?_;refine uN qB O ?_;clear O;intro b10 w O;refine uW (vs:=[_,_,_]) (cs':=[_,_,_]) rfl rfl gz O ?_;clear O;intro w O;refine uO 7 ?_;refine u1 2 (cQ (aD rfl rfl) (by omega)) ?_;refine u1 3 (cQ (aD rfl rfl) (by omega)) ?_;refine u1 0 (lS (cs:=[_,_,_]) rfl) ?_;refine u1 0 (ax (cs:=[_,_,_]) rfl vK gz (by exact (O.p 7).aE (xs:=[_,_,_]) rfl)) ?_
      refine jL rfl (ig _ (⟨ks6,kn6,ka6,kc6,kh6⟩:aC) (⟨self,next,ka,kc,hs⟩:aC) ⟨(O.p 4).rd,fun h hh=>fT (O.p 5) h.n1 (List.mem_map.2 ⟨h,hh,rfl⟩),fun h hh=>by rw[hoz6 h hh];exact r4 _⟩ hsm6 (hp.sat O) hs0) ?_;rintro e w ⟨he,hT⟩;rw[decide_eq_true (show aC.d1 ⟨ks6,kn6,ka6,kc6,kh6⟩=aC.d1 (⟨self,next,ka,kc,hs⟩:aC) from hkd6)]at he;subst he
      ·replace O:Sat _ _ _:=O.ag hT;clear hT;refine u1 6 (aF rfl) ?_;intro a I;refine cf (fun a w=>∃(z:aC),Ag a 122 [(1,.slice A (bs).length c),(2,.pointer (some ⟨b2,0,none⟩)),(4,.bool false),(5,.int .i64 1),(6,.slice A9 ((aQ 1 (aC.d1 (⟨self,next,ka,kc,hs⟩:aC)))).length c9),(8,.pointer (some ⟨b8,0,none⟩))]∧Sat W w ([aV b8 (.cells #[.int .i64 z.self,.int .i64 z.next,.slice z.a z.hs.length z.c] 24),row 5 1 (.slice A9 ((aQ 1 (aC.d1 (⟨self,next,ka,kc,hs⟩:aC)))).length c9) ((aQ 1 (aC.d1 (⟨self,next,ka,kc,hs⟩:aC)))).length (((aQ 1 (aC.d1 (⟨self,next,ka,kc,hs⟩:aC)))).map ai),aV b2 (.cells #[.int .i64 self,.int .i64 next,.slice ka hs.length kc] 24)])) ?_ ?_
       ·refine rC 2 I ?_;clear I a;refine u1 0 (aa rfl cz) ?_;refine u1 0 (an rfl CM (by exact (O.p 7).cell rfl)) ?_;refine u1 0 (ak rfl ff) ?_;refine u1 1 (dO (aY rfl rfl) (by omega)) ?_;refine u1 0 (dO (aY rfl rfl) (by omega)) ?_;refine u1 2 (yC rfl rfl IX) ?_;refine u1 13 (cQ (aD rfl rfl) (by omega)) ?_;intro a I;replace I:=I.kp [1,2,4,5,6,8] rfl
        first
         | exact⟨⟨ks6,kn6,ka6,kc6,kh6⟩,I,(nJ (((O.p 7).p 7).p 5))⟩
       ·intro a w hI;clear O I;obtain⟨z,I,O⟩:=hI;refine cf (fun a w=>∃(z:aC),Ag a 122 [(1,.slice A (bs).length c),(2,.pointer (some ⟨b2,0,none⟩)),(4,.bool false),(5,.int .i64 1),(6,.slice A9 ((aQ 1 (aC.d1 (⟨self,next,ka,kc,hs⟩:aC)))).length c9),(8,.pointer (some ⟨b8,0,none⟩))]∧Sat W w ([aV b8 (.cells #[.int .i64 z.self,.int .i64 z.next,.slice z.a z.hs.length z.c] 24),row 5 1 (.slice A9 ((aQ 1 (aC.d1 (⟨self,next,ka,kc,hs⟩:aC)))).length c9) ((aQ 1 (aC.d1 (⟨self,next,ka,kc,hs⟩:aC)))).length (((aQ 1 (aC.d1 (⟨self,next,ka,kc,hs⟩:aC)))).map ai),aV b2 (.cells #[.int .i64 self,.int .i64 next,.slice ka hs.length kc] 24)])) ?_ ?_
        ·refine rC 6 I ?_;clear I a;intro a I;refine wp_loop_ghost (fun (mm:Nat) a w=>∃(n:Nat) (z:aC),Ag a 122 [(1,.slice A (bs).length c),(2,.pointer (some ⟨b2,0,none⟩)),(4,.bool false),(5,.int .i64 1),(6,.slice A9 ((aQ 1 (aC.d1 (⟨self,next,ka,kc,hs⟩:aC)))).length c9),(8,.pointer (some ⟨b8,0,none⟩)),(12,.int .i64 ((n:Nat):Int))]∧Sat W w ([aV b8 (.cells #[.int .i64 z.self,.int .i64 z.next,.slice z.a z.hs.length z.c] 24),row 5 1 (.slice A9 ((aQ 1 (aC.d1 (⟨self,next,ka,kc,hs⟩:aC)))).length c9) ((aQ 1 (aC.d1 (⟨self,next,ka,kc,hs⟩:aC)))).length (((aQ 1 (aC.d1 (⟨self,next,ka,kc,hs⟩:aC)))).map ai),aV b2 (.cells #[.int .i64 self,.int .i64 next,.slice ka hs.length kc] 24)])∧(n≤(aQ 1 (aC.d1 (⟨self,next,ka,kc,hs⟩:aC))).length)∧mm=(aQ 1 (aC.d1 (⟨self,next,ka,kc,hs⟩:aC))).length-n) (aQ 1 (aC.d1 (⟨self,next,ka,kc,hs⟩:aC))).length ?_ ?_
         ·replace I:=I.kp [1,2,4,5,6,8,12] rfl;exact⟨0,_,I,O,(by omega),by omega⟩
         intro m a w hI;clear O I;obtain⟨n,z,I,O,hn,rfl⟩:=hI;refine rC 5 I ?_;clear I a;refine u1 0 (ak rfl a7) ?_;refine aM 0 0 (aq rfl rfl) ?_ ?_
         ·intro h84;refine uO 2 ?_;refine aM 0 0 (aq rfl rfl) ?_ ?_
          ·intro h87;refine uO 13 ?_;refine u1 0 (aI (iF rfl rfl a7 y8 (by omega) (by omega)) (show _=Value.slice A9 ((aQ 1 (aC.d1 (⟨self,next,ka,kc,hs⟩:aC))).take n).length c9 from sX (by omega))) ?_;refine uF rfl (fe _ A9 c9 ((aQ 1 (aC.d1 (⟨self,next,ka,kc,hs⟩:aC))).take n) (by rw[List.length_take];omega) (w4 (O.p 1).rd)) ?_;rintro e w hq;obtain⟨⟨ks5,kn5,ka5,kc5,kh5⟩,hkd5,hnil5,rfl,hT⟩:=jS (k:=1) (f:=ay) (D:=aC.d1) (oX (by decide) (fun d hd=>hd) hkT (by omega) (by omega)) hq;clear hq;dsimp only at hT hnil5 ⊢;replace O:=O.ar hT;clear hT;refine uO 1 ?_;refine u1 0 (aj rfl rfl) ?_;refine u1 0 (aj rfl rfl) ?_;refine uW (vs:=[_,_,_]) (cs':=[_,_,_]) rfl rfl gz (O.p 1) ?_;clear O;intro w O;refine uO 6 ?_;refine u1 1 (lS (cs:=[_,_,_]) rfl) ?_
           refine uF rfl (eP _ (⟨ks5,kn5,ka5,kc5,kh5⟩:aC) 8 (fv hnil5 (O.p 1)).1 (fv (t:=72) hnil5 (O.p 1)).2) ?_;rintro e w ⟨he,hT⟩;rw[decide_eq_true ⟨rfl,show aC.d1 ⟨ks5,kn5,ka5,kc5,kh5⟩=aC.d1 (⟨0,0,none,0,[]⟩:aC) from hkd5⟩]at he;subst he
           ·replace O:Sat _ _ _:=O.ag hT;clear hT;refine u1 8 (aF rfl) ?_;refine u1 2 (ad rfl rfl) ?_;intro a I;replace I:=I.kp [1,2,4,5,6,8,12] rfl;refine⟨(aQ 1 (aC.d1 (⟨self,next,ka,kc,hs⟩:aC))).length-(n+1),by omega,n+1,⟨ks5,kn5,ka5,kc5,kh5⟩,I,nJ (((O.p 3).p 3).p 2),by omega,rfl⟩
          ·intro h87;refine uO 8 ?_;intro a I;replace I:=I.kp [1,2,4,5,6,8] rfl
           first
            | exact⟨_,I,O⟩
         ·intro h84;refine uO 11 ?_;intro a I;replace I:=I.kp [1,2,4,5,6,8] rfl
          first
           | exact⟨_,I,O⟩
        ·intro a w hI;clear O I;obtain⟨z,I,O⟩:=hI;refine rC 3 I ?_;clear I a;refine u1 0 (ak rfl a7) ?_;refine aM 0 0 (db rfl rfl) ?_ ?_
         ·intro h106;refine uO 6 ?_;intro a I;refine y5 I rfl a7 jt O ?_;clear I a O;intro A109 w O;refine uO 1 ?_;intro a I;refine cZ I rfl rfl rfl a7 jt rfl O ((((O.p 2).rd).src a7 (by simp[ai,Value.oneCell']))) (by omega) (by omega) ?_;clear I a O;intro A111 c111 w hc111 O;refine uO 1 ?_;intro a I;refine cZ I rfl rfl rfl a7 jt rfl O (((hR.sat O).src a7 (by simp[ai,Value.oneCell']))) (by omega) (by omega) ?_;clear I a O;intro A113 c113 w hc113 O;have e113:0+(aQ 1 (aC.d1 (⟨self,next,ka,kc,hs⟩:aC))).length+bs.length=((aQ 1 (aC.d1 (⟨self,next,ka,kc,hs⟩:aC)))++bs).length:=by rw[List.length_append];omega
          intro a I;replace O:=gL (cs':=((aQ 1 (aC.d1 (⟨self,next,ka,kc,hs⟩:aC)))++bs).map ai) O e113 (by simp only[List.nil_append,List.map_append]);rw[e113]at I;refine vL I rfl Fo rfl (fe _ A113 c113 ((aQ 1 (aC.d1 (⟨self,next,ka,kc,hs⟩:aC)))++bs) (by rw[List.length_append];omega) O.rd) ?_;clear I a;rintro e w hq;obtain⟨⟨ks3,kn3,ka3,kc3,kh3⟩,hkd3,hnil3,rfl,hT⟩:=jS (k:=1) (f:=ay) (D:=aC.d1) (mY (by decide) (fun d hd=>hd) hkT (by omega) (by omega)) hq;clear hq;dsimp only at hT hnil3 ⊢;replace O:=O.ar hT;clear hT;refine⟨_,rfl,?_⟩;refine uO 1 ?_;refine u1 0 (aj rfl rfl) ?_;refine u1 0 (aj rfl rfl) ?_;refine uW (vs:=[_,_,_]) (cs':=[_,_,_]) rfl rfl gz (O.p 2) ?_;clear O;intro w O;refine uO 6 ?_;refine u1 1 (lS (cs:=[_,_,_]) rfl) ?_
          refine uF rfl (eP _ (⟨ks3,kn3,ka3,kc3,kh3⟩:aC) 8 (fv hnil3 (O.p 1)).1 (fv (t:=72) hnil3 (O.p 1)).2) ?_;rintro e w ⟨he,hT⟩;rw[decide_eq_true ⟨rfl,show aC.d1 ⟨ks3,kn3,ka3,kc3,kh3⟩=aC.d1 (⟨0,0,none,0,[]⟩:aC) from hkd3⟩]at he;subst he
          ·replace O:Sat _ _ _:=O.ag hT;clear hT;refine u1 5 (aF rfl) ?_;intro a I;replace I:=I.kp [1,2,4,5] rfl
           first
            | exact⟨I,(cu O)⟩
            | exact⟨I,(cu (O.p 1))⟩
            | exact⟨I,(cu (O.p 2))⟩
            | exact⟨I,(cu (O.p 3))⟩
            | exact⟨I,(cu (O.p 4))⟩
            | exact⟨I,(cu (O.p 5))⟩
            | exact⟨I,(cu (O.p 6))⟩
            | exact⟨I,(cu (O.p 7))⟩
            | exact⟨I,(cu (O.p 8))⟩
         ·intro h106;refine uO 5 ?_;intro a I;replace I:=I.kp [1,2,4,5] rfl
          first
           | exact⟨I,(cu O)⟩
           | exact⟨I,(cu (O.p 1))⟩
           | exact⟨I,(cu (O.p 2))⟩
           | exact⟨I,(cu (O.p 3))⟩
           | exact⟨I,(cu (O.p 4))⟩
           | exact⟨I,(cu (O.p 5))⟩
           | exact⟨I,(cu (O.p 6))⟩
           | exact⟨I,(cu (O.p 7))⟩
           | exact⟨I,(cu (O.p 8))⟩
     ·dsimp only at hT hnil7 ⊢;replace O:=O.ar hT;clear hT;have hd0:hs.length≠0:=fun h=>(by have hz:(aC.d1 (⟨self,next,ka,kc,hs⟩:aC)).hs=[]:=(by simp[aC.d1,List.eq_nil_of_length_eq_zero h]);exact hno7 _ (yA hz hkT) (wK 1 2 hz))
      refine uO 1 ?_;refine u1 0 (aj rfl rfl) ?_;refine u1 0 (aj rfl rfl) ?_;refine uN qB O ?_;clear O;intro b10 w O;refine uW (vs:=[_,_,_]) (cs':=[_,_,_]) rfl rfl gz O ?_;clear O;intro w O;refine uO 7 ?_;refine u1 2 (cQ (aD rfl rfl) (by omega)) ?_;refine u1 3 (cQ (aD rfl rfl) (by omega)) ?_;refine u1 0 (lS (cs:=[_,_,_]) rfl) ?_;refine u1 0 (ax (cs:=[_,_,_]) rfl vK gz (by exact (O.p 6).aE (xs:=[_,_,_]) rfl)) ?_;refine jL rfl (ig _ (⟨ks6,kn6,ka6,kc6,kh6⟩:aC) (⟨self,next,ka,kc,hs⟩:aC) ⟨(O.p 3).rd,fun h hh=>fT (O.p 4) h.n1 (List.mem_map.2 ⟨h,hh,rfl⟩),fun h hh=>by rw[hoz6 h hh];exact r4 _⟩ hsm6 (hp.sat O) hs0) ?_;rintro e w ⟨he,hT⟩;rw[decide_eq_true (show aC.d1 ⟨ks6,kn6,ka6,kc6,kh6⟩=aC.d1 (⟨self,next,ka,kc,hs⟩:aC) from hkd6)]at he;subst he
      ·replace O:Sat _ _ _:=O.ag hT;clear hT;refine u1 6 (aF rfl) ?_;intro a I;refine cf (fun a w=>∃(z:aC),Ag a 122 [(1,.slice A (bs).length c),(2,.pointer (some ⟨b2,0,none⟩)),(4,.bool false),(5,.int .i64 1),(6,.slice A9 ((aQ 1 (aC.d1 (⟨self,next,ka,kc,hs⟩:aC)))).length c9),(8,.pointer (some ⟨b8,0,none⟩))]∧Sat W w ([aV b8 (.cells #[.int .i64 z.self,.int .i64 z.next,.slice z.a z.hs.length z.c] 24),row 5 1 (.slice A9 ((aQ 1 (aC.d1 (⟨self,next,ka,kc,hs⟩:aC)))).length c9) ((aQ 1 (aC.d1 (⟨self,next,ka,kc,hs⟩:aC)))).length (((aQ 1 (aC.d1 (⟨self,next,ka,kc,hs⟩:aC)))).map ai),aV b2 (.cells #[.int .i64 self,.int .i64 next,.slice ka hs.length kc] 24)])) ?_ ?_
       ·refine rC 2 I ?_;clear I a;refine u1 0 (aa rfl cz) ?_;refine u1 0 (an rfl CM (by exact (O.p 6).cell rfl)) ?_;refine u1 0 (ak rfl ff) ?_;refine u1 1 (cQ (aY rfl rfl) (by omega)) ?_;refine u1 0 (cQ (aY rfl rfl) (by omega)) ?_;refine u1 2 (yC rfl rfl IX) ?_;refine u1 2 (dO (aD rfl rfl) (by omega)) ?_;refine u1 0 (aI (sb rfl rfl) (show _=Value.int .i64 2 from rfl)) ?_;refine u1 1 (lS (cs:=[_,_,_]) rfl) ?_;refine jL rfl (eQ _ (⟨ks7,kn7,ka7,kc7,kh7⟩:aC) 8 (fv hnil7 (O.p 1)).1 (fv (t:=72) hnil7 (O.p 1)).2) ?_;rintro e w ⟨he,hT⟩;rw[decide_eq_true ⟨rfl,show aC.d2 ⟨ks7,kn7,ka7,kc7,kh7⟩=aC.d2 (⟨0,0,none,0,[]⟩:aC) from hkd7⟩]at he;subst he
        ·replace O:Sat _ _ _:=O.ag hT;clear hT;refine u1 6 (aF rfl) ?_;intro a I;replace I:=I.kp [1,2,4,5,6,8] rfl
         first
          | exact⟨⟨ks6,kn6,ka6,kc6,kh6⟩,I,(nJ (((O.p 6).p 6).p 4))⟩
       ·intro a w hI;clear O I;obtain⟨z,I,O⟩:=hI;refine cf (fun a w=>∃(z:aC),Ag a 122 [(1,.slice A (bs).length c),(2,.pointer (some ⟨b2,0,none⟩)),(4,.bool false),(5,.int .i64 1),(6,.slice A9 ((aQ 1 (aC.d1 (⟨self,next,ka,kc,hs⟩:aC)))).length c9),(8,.pointer (some ⟨b8,0,none⟩))]∧Sat W w ([aV b8 (.cells #[.int .i64 z.self,.int .i64 z.next,.slice z.a z.hs.length z.c] 24),row 5 1 (.slice A9 ((aQ 1 (aC.d1 (⟨self,next,ka,kc,hs⟩:aC)))).length c9) ((aQ 1 (aC.d1 (⟨self,next,ka,kc,hs⟩:aC)))).length (((aQ 1 (aC.d1 (⟨self,next,ka,kc,hs⟩:aC)))).map ai),aV b2 (.cells #[.int .i64 self,.int .i64 next,.slice ka hs.length kc] 24)])) ?_ ?_
        ·refine rC 6 I ?_;clear I a;intro a I;refine wp_loop_ghost (fun (mm:Nat) a w=>∃(n:Nat) (z:aC),Ag a 122 [(1,.slice A (bs).length c),(2,.pointer (some ⟨b2,0,none⟩)),(4,.bool false),(5,.int .i64 1),(6,.slice A9 ((aQ 1 (aC.d1 (⟨self,next,ka,kc,hs⟩:aC)))).length c9),(8,.pointer (some ⟨b8,0,none⟩)),(12,.int .i64 ((n:Nat):Int))]∧Sat W w ([aV b8 (.cells #[.int .i64 z.self,.int .i64 z.next,.slice z.a z.hs.length z.c] 24),row 5 1 (.slice A9 ((aQ 1 (aC.d1 (⟨self,next,ka,kc,hs⟩:aC)))).length c9) ((aQ 1 (aC.d1 (⟨self,next,ka,kc,hs⟩:aC)))).length (((aQ 1 (aC.d1 (⟨self,next,ka,kc,hs⟩:aC)))).map ai),aV b2 (.cells #[.int .i64 self,.int .i64 next,.slice ka hs.length kc] 24)])∧(n≤(aQ 1 (aC.d1 (⟨self,next,ka,kc,hs⟩:aC))).length)∧mm=(aQ 1 (aC.d1 (⟨self,next,ka,kc,hs⟩:aC))).length-n) (aQ 1 (aC.d1 (⟨self,next,ka,kc,hs⟩:aC))).length ?_ ?_
         ·replace I:=I.kp [1,2,4,5,6,8,12] rfl;exact⟨0,_,I,O,(by omega),by omega⟩
         intro m a w hI;clear O I;obtain⟨n,z,I,O,hn,rfl⟩:=hI;refine rC 5 I ?_;clear I a;refine u1 0 (ak rfl a7) ?_;refine aM 0 0 (aq rfl rfl) ?_ ?_
         ·intro h84;refine uO 2 ?_;refine aM 0 0 (aq rfl rfl) ?_ ?_
          ·intro h87;refine uO 13 ?_;refine u1 0 (aI (iF rfl rfl a7 y8 (by omega) (by omega)) (show _=Value.slice A9 ((aQ 1 (aC.d1 (⟨self,next,ka,kc,hs⟩:aC))).take n).length c9 from sX (by omega))) ?_;refine uF rfl (fe _ A9 c9 ((aQ 1 (aC.d1 (⟨self,next,ka,kc,hs⟩:aC))).take n) (by rw[List.length_take];omega) (w4 (O.p 1).rd)) ?_;rintro e w hq;obtain⟨⟨ks5,kn5,ka5,kc5,kh5⟩,hkd5,hnil5,rfl,hT⟩:=jS (k:=1) (f:=ay) (D:=aC.d1) (oX (by decide) (fun d hd=>hd) hkT (by omega) (by omega)) hq;clear hq;dsimp only at hT hnil5 ⊢;replace O:=O.ar hT;clear hT;refine uO 1 ?_;refine u1 0 (aj rfl rfl) ?_;refine u1 0 (aj rfl rfl) ?_;refine uW (vs:=[_,_,_]) (cs':=[_,_,_]) rfl rfl gz (O.p 1) ?_;clear O;intro w O;refine uO 6 ?_;refine u1 1 (lS (cs:=[_,_,_]) rfl) ?_
           refine uF rfl (eP _ (⟨ks5,kn5,ka5,kc5,kh5⟩:aC) 8 (fv hnil5 (O.p 1)).1 (fv (t:=72) hnil5 (O.p 1)).2) ?_;rintro e w ⟨he,hT⟩;rw[decide_eq_true ⟨rfl,show aC.d1 ⟨ks5,kn5,ka5,kc5,kh5⟩=aC.d1 (⟨0,0,none,0,[]⟩:aC) from hkd5⟩]at he;subst he
           ·replace O:Sat _ _ _:=O.ag hT;clear hT;refine u1 8 (aF rfl) ?_;refine u1 2 (ad rfl rfl) ?_;intro a I;replace I:=I.kp [1,2,4,5,6,8,12] rfl;refine⟨(aQ 1 (aC.d1 (⟨self,next,ka,kc,hs⟩:aC))).length-(n+1),by omega,n+1,⟨ks5,kn5,ka5,kc5,kh5⟩,I,nJ (((O.p 3).p 3).p 2),by omega,rfl⟩
          ·intro h87;refine uO 8 ?_;intro a I;replace I:=I.kp [1,2,4,5,6,8] rfl
           first
            | exact⟨_,I,O⟩
         ·intro h84;refine uO 11 ?_;intro a I;replace I:=I.kp [1,2,4,5,6,8] rfl
          first
           | exact⟨_,I,O⟩
        ·intro a w hI;clear O I;obtain⟨z,I,O⟩:=hI;refine rC 3 I ?_;clear I a;refine u1 0 (ak rfl a7) ?_;refine aM 0 0 (db rfl rfl) ?_ ?_
         ·intro h106;refine uO 6 ?_;intro a I;refine y5 I rfl a7 jt O ?_;clear I a O;intro A109 w O;refine uO 1 ?_;intro a I;refine cZ I rfl rfl rfl a7 jt rfl O ((((O.p 2).rd).src a7 (by simp[ai,Value.oneCell']))) (by omega) (by omega) ?_;clear I a O;intro A111 c111 w hc111 O;refine uO 1 ?_;intro a I;refine cZ I rfl rfl rfl a7 jt rfl O (((hR.sat O).src a7 (by simp[ai,Value.oneCell']))) (by omega) (by omega) ?_;clear I a O;intro A113 c113 w hc113 O;have e113:0+(aQ 1 (aC.d1 (⟨self,next,ka,kc,hs⟩:aC))).length+bs.length=((aQ 1 (aC.d1 (⟨self,next,ka,kc,hs⟩:aC)))++bs).length:=by rw[List.length_append];omega
          intro a I;replace O:=gL (cs':=((aQ 1 (aC.d1 (⟨self,next,ka,kc,hs⟩:aC)))++bs).map ai) O e113 (by simp only[List.nil_append,List.map_append]);rw[e113]at I;refine vL I rfl Fo rfl (fe _ A113 c113 ((aQ 1 (aC.d1 (⟨self,next,ka,kc,hs⟩:aC)))++bs) (by rw[List.length_append];omega) O.rd) ?_;clear I a;rintro e w hq;obtain⟨⟨ks3,kn3,ka3,kc3,kh3⟩,hkd3,hnil3,rfl,hT⟩:=jS (k:=1) (f:=ay) (D:=aC.d1) (mY (by decide) (fun d hd=>hd) hkT (by omega) (by omega)) hq;clear hq;dsimp only at hT hnil3 ⊢;replace O:=O.ar hT;clear hT;refine⟨_,rfl,?_⟩;refine uO 1 ?_;refine u1 0 (aj rfl rfl) ?_;refine u1 0 (aj rfl rfl) ?_;refine uW (vs:=[_,_,_]) (cs':=[_,_,_]) rfl rfl gz (O.p 2) ?_;clear O;intro w O;refine uO 6 ?_;refine u1 1 (lS (cs:=[_,_,_]) rfl) ?_
          refine uF rfl (eP _ (⟨ks3,kn3,ka3,kc3,kh3⟩:aC) 8 (fv hnil3 (O.p 1)).1 (fv (t:=72) hnil3 (O.p 1)).2) ?_;rintro e w ⟨he,hT⟩;rw[decide_eq_true ⟨rfl,show aC.d1 ⟨ks3,kn3,ka3,kc3,kh3⟩=aC.d1 (⟨0,0,none,0,[]⟩:aC) from hkd3⟩]at he;subst he
          ·replace O:Sat _ _ _:=O.ag hT;clear hT;refine u1 5 (aF rfl) ?_;intro a I;replace I:=I.kp [1,2,4,5] rfl
           first
            | exact⟨I,(cu O)⟩
            | exact⟨I,(cu (O.p 1))⟩
            | exact⟨I,(cu (O.p 2))⟩
            | exact⟨I,(cu (O.p 3))⟩
            | exact⟨I,(cu (O.p 4))⟩
            | exact⟨I,(cu (O.p 5))⟩
            | exact⟨I,(cu (O.p 6))⟩
            | exact⟨I,(cu (O.p 7))⟩
            | exact⟨I,(cu (O.p 8))⟩
         ·intro h106;refine uO 5 ?_;intro a I;replace I:=I.kp [1,2,4,5] rfl
          first
           | exact⟨I,(cu O)⟩
           | exact⟨I,(cu (O.p 1))⟩
           | exact⟨I,(cu (O.p 2))⟩
           | exact⟨I,(cu (O.p 3))⟩
           | exact⟨I,(cu (O.p 4))⟩
           | exact⟨I,(cu (O.p 5))⟩
           | exact⟨I,(cu (O.p 6))⟩
           | exact⟨I,(cu (O.p 7))⟩
           | exact⟨I,(cu (O.p 8))⟩
   ·replace O:Sat _ _ _:=O.ag hT;clear hT;refine uO 1 ?_;refine u1 0 (aj rfl rfl) ?_;refine u1 8 (aj rfl rfl) ?_;refine u1 0 (lS (cs:=[_,_,_]) rfl) ?_;refine uF rfl (mG _ (⟨self,next,ka,kc,hs⟩:aC) (hp.sat O) hs0) ?_;rintro e w ⟨he,hT⟩;rw[hkT]at he;subst he
    ·replace O:Sat _ _ _:=O.ag hT;clear hT;refine u1 7 (aF rfl) ?_;refine u1 2 (cQ (aD rfl rfl) (by omega)) ?_;refine u1 0 (ak rfl a7) ?_;refine u1 9 (cQ (aD rfl rfl) (by omega)) ?_;intro a I;replace I:=I.kp [1,2,4,5] rfl
     first
      | exact⟨I,(cu O)⟩
      | exact⟨I,(cu (O.p 1))⟩
      | exact⟨I,(cu (O.p 2))⟩
      | exact⟨I,(cu (O.p 3))⟩
      | exact⟨I,(cu (O.p 4))⟩
      | exact⟨I,(cu (O.p 5))⟩
      | exact⟨I,(cu (O.p 6))⟩
      | exact⟨I,(cu (O.p 7))⟩
      | exact⟨I,(cu (O.p 8))⟩
  ·intro a w hI;clear O I;obtain⟨I,O⟩:=hI;refine rC 2 I ?_;clear I a;refine u1 2 (aI (ad rfl rfl) (show _=Value.int .i64 2 from rfl)) ?_;intro a I;refine a6 ?_;refine rC 4 I ?_;clear I a;refine u1 5 (dO (dT rfl rfl) (by omega)) ?_;intro a I;refine cf (fun a w=>Ag a 122 [(1,.slice A (bs).length c),(2,.pointer (some ⟨b2,0,none⟩)),(4,.bool false),(5,.int .i64 2)]∧Sat W w ([aV b2 (.cells #[.int .i64 self,.int .i64 next,.slice ka hs.length kc] 24)])) ?_ ?_
   ·refine rC 4 I ?_;clear I a;refine u1 0 (lS (cs:=[_,_,_]) rfl) ?_;refine uF rfl (pj _ (⟨self,next,ka,kc,hs⟩:aC) (hp.sat O) hs0) ?_;rintro e w (⟨hkS,A9,c9,rfl,hT⟩ | ⟨hkS,rfl,hT⟩)
    ·replace O:=O.ar hT;clear hT;have hl9:=hi2 hkS;have hc9:(aQ 2 (aC.d2 (⟨self,next,ka,kc,hs⟩:aC))).length≤c9:=(by obtain⟨_,_,h0,h1⟩:=O.rd.form;injection h0;omega);refine uO 1 ?_;refine u1 0 (aj rfl rfl) ?_;refine u1 8 (aj rfl rfl) ?_;refine u1 0 (lS (cs:=[_,_,_]) rfl) ?_;refine uF rfl (mq _ (⟨self,next,ka,kc,hs⟩:aC) (hp.sat O) hs0) ?_;rintro e w ⟨he,hT⟩;rw[hkS]at he;subst he
     ·replace O:Sat _ _ _:=O.ag hT;clear hT;refine u1 9 (aF rfl) ?_;refine uF rfl (eX _ A9 c9 (aQ 2 (aC.d2 (⟨self,next,ka,kc,hs⟩:aC))) (by omega) O.rd) ?_;rintro e w hq;obtain⟨⟨ks6,kn6,ka6,kc6,kh6⟩,hkd6,hsm6,hoz6,rfl,hT⟩:=yv (k:=2) (f:=bq) (D:=aC.d2) (by decide) (fun d hd=>cR hd) hkS rfl (by omega) hq;clear hq;dsimp only at hT hoz6 ⊢;replace O:Sat _ _ (_::_::_):=O.ag hT;clear hT;refine uO 1 ?_;refine u1 0 (aj rfl rfl) ?_;refine u1 0 (aj rfl rfl) ?_;refine uN qB O ?_;clear O;intro b8 w O;refine uW (vs:=[_,_,_]) (cs':=[_,_,_]) rfl rfl gz O ?_;clear O;intro w O;refine uO 6 ?_;refine u1 1 (aI (sb rfl rfl) (show _=Value.int .i64 1 from rfl)) ?_;refine uF rfl (fe _ A9 c9 (aQ 2 (aC.d2 (⟨self,next,ka,kc,hs⟩:aC))) (by omega) (O.p 3).rd) ?_
      rintro e w (⟨⟨ks7,kn7,ka7,kc7,kh7⟩,hok7,hbs7,hsm7,hoz7,rfl,hT⟩ | ⟨hno7,⟨ks7,kn7,ka7,kc7,kh7⟩,hkd7,hnil7,rfl,hT⟩)
      ·dsimp only at hT hoz7 ⊢;replace O:Sat _ _ (_::_::_):=O.ag hT;clear hT;have hd0:hs.length=0:=(by have h:=congrArg List.length (vW (by decide) (by decide) (by decide) hkS hok7 (by omega) hbs7);simpa[aC.d2]using h);refine uO 1 ?_;refine u1 0 (aj rfl rfl) ?_;refine u1 0 (aj rfl rfl) ?_;refine uN qB O ?_;clear O;intro b10 w O;refine uW (vs:=[_,_,_]) (cs':=[_,_,_]) rfl rfl gz O ?_;clear O;intro w O;refine uO 7 ?_;refine u1 2 (cQ (aD rfl rfl) (by omega)) ?_;refine u1 3 (cQ (aD rfl rfl) (by omega)) ?_;refine u1 0 (lS (cs:=[_,_,_]) rfl) ?_;refine u1 0 (ax (cs:=[_,_,_]) rfl vK gz (by exact (O.p 7).aE (xs:=[_,_,_]) rfl)) ?_
       refine jL rfl (ik _ (⟨ks6,kn6,ka6,kc6,kh6⟩:aC) (⟨self,next,ka,kc,hs⟩:aC) ⟨(O.p 4).rd,fun h hh=>(by rw[hoz6 h hh];exact r4 _),fun h hh=>fT (O.p 5) h.n2 (List.mem_map.2 ⟨h,hh,rfl⟩)⟩ hsm6 (hp.sat O) hs0) ?_;rintro e w ⟨he,hT⟩;rw[decide_eq_true (show aC.d2 ⟨ks6,kn6,ka6,kc6,kh6⟩=aC.d2 (⟨self,next,ka,kc,hs⟩:aC) from hkd6)]at he;subst he
       ·replace O:Sat _ _ _:=O.ag hT;clear hT;refine u1 6 (aF rfl) ?_;intro a I;refine cf (fun a w=>∃(z:aC),Ag a 122 [(1,.slice A (bs).length c),(2,.pointer (some ⟨b2,0,none⟩)),(4,.bool false),(5,.int .i64 2),(6,.slice A9 ((aQ 2 (aC.d2 (⟨self,next,ka,kc,hs⟩:aC)))).length c9),(8,.pointer (some ⟨b8,0,none⟩))]∧Sat W w ([aV b8 (.cells #[.int .i64 z.self,.int .i64 z.next,.slice z.a z.hs.length z.c] 24),row 5 1 (.slice A9 ((aQ 2 (aC.d2 (⟨self,next,ka,kc,hs⟩:aC)))).length c9) ((aQ 2 (aC.d2 (⟨self,next,ka,kc,hs⟩:aC)))).length (((aQ 2 (aC.d2 (⟨self,next,ka,kc,hs⟩:aC)))).map ai),aV b2 (.cells #[.int .i64 self,.int .i64 next,.slice ka hs.length kc] 24)])) ?_ ?_
        ·refine rC 2 I ?_;clear I a;refine u1 0 (aa rfl cz) ?_;refine u1 0 (an rfl CM (by exact (O.p 7).cell rfl)) ?_;refine u1 0 (ak rfl ff) ?_;refine u1 1 (dO (aY rfl rfl) (by omega)) ?_;refine u1 0 (dO (aY rfl rfl) (by omega)) ?_;refine u1 2 (yC rfl rfl IX) ?_;refine u1 13 (cQ (aD rfl rfl) (by omega)) ?_;intro a I;replace I:=I.kp [1,2,4,5,6,8] rfl
         first
          | exact⟨⟨ks6,kn6,ka6,kc6,kh6⟩,I,(nJ (((O.p 7).p 7).p 5))⟩
        ·intro a w hI;clear O I;obtain⟨z,I,O⟩:=hI;refine cf (fun a w=>∃(z:aC),Ag a 122 [(1,.slice A (bs).length c),(2,.pointer (some ⟨b2,0,none⟩)),(4,.bool false),(5,.int .i64 2),(6,.slice A9 ((aQ 2 (aC.d2 (⟨self,next,ka,kc,hs⟩:aC)))).length c9),(8,.pointer (some ⟨b8,0,none⟩))]∧Sat W w ([aV b8 (.cells #[.int .i64 z.self,.int .i64 z.next,.slice z.a z.hs.length z.c] 24),row 5 1 (.slice A9 ((aQ 2 (aC.d2 (⟨self,next,ka,kc,hs⟩:aC)))).length c9) ((aQ 2 (aC.d2 (⟨self,next,ka,kc,hs⟩:aC)))).length (((aQ 2 (aC.d2 (⟨self,next,ka,kc,hs⟩:aC)))).map ai),aV b2 (.cells #[.int .i64 self,.int .i64 next,.slice ka hs.length kc] 24)])) ?_ ?_
         ·refine rC 6 I ?_;clear I a;intro a I;refine wp_loop_ghost (fun (mm:Nat) a w=>∃(n:Nat) (z:aC),Ag a 122 [(1,.slice A (bs).length c),(2,.pointer (some ⟨b2,0,none⟩)),(4,.bool false),(5,.int .i64 2),(6,.slice A9 ((aQ 2 (aC.d2 (⟨self,next,ka,kc,hs⟩:aC)))).length c9),(8,.pointer (some ⟨b8,0,none⟩)),(12,.int .i64 ((n:Nat):Int))]∧Sat W w ([aV b8 (.cells #[.int .i64 z.self,.int .i64 z.next,.slice z.a z.hs.length z.c] 24),row 5 1 (.slice A9 ((aQ 2 (aC.d2 (⟨self,next,ka,kc,hs⟩:aC)))).length c9) ((aQ 2 (aC.d2 (⟨self,next,ka,kc,hs⟩:aC)))).length (((aQ 2 (aC.d2 (⟨self,next,ka,kc,hs⟩:aC)))).map ai),aV b2 (.cells #[.int .i64 self,.int .i64 next,.slice ka hs.length kc] 24)])∧(n≤(aQ 2 (aC.d2 (⟨self,next,ka,kc,hs⟩:aC))).length)∧mm=(aQ 2 (aC.d2 (⟨self,next,ka,kc,hs⟩:aC))).length-n) (aQ 2 (aC.d2 (⟨self,next,ka,kc,hs⟩:aC))).length ?_ ?_
          ·replace I:=I.kp [1,2,4,5,6,8,12] rfl;exact⟨0,_,I,O,(by omega),by omega⟩
          intro m a w hI;clear O I;obtain⟨n,z,I,O,hn,rfl⟩:=hI;refine rC 5 I ?_;clear I a;refine u1 0 (ak rfl a7) ?_;refine aM 0 0 (aq rfl rfl) ?_ ?_
          ·intro h84;refine uO 2 ?_;refine aM 0 0 (aq rfl rfl) ?_ ?_
           ·intro h87;refine uO 13 ?_;refine u1 0 (aI (iF rfl rfl a7 y8 (by omega) (by omega)) (show _=Value.slice A9 ((aQ 2 (aC.d2 (⟨self,next,ka,kc,hs⟩:aC))).take n).length c9 from sX (by omega))) ?_;refine uF rfl (eX _ A9 c9 ((aQ 2 (aC.d2 (⟨self,next,ka,kc,hs⟩:aC))).take n) (by rw[List.length_take];omega) (w4 (O.p 1).rd)) ?_;rintro e w hq;obtain⟨⟨ks5,kn5,ka5,kc5,kh5⟩,hkd5,hnil5,rfl,hT⟩:=jS (k:=2) (f:=bq) (D:=aC.d2) (oX (by decide) (fun d hd=>cR hd) hkS (by omega) (by omega)) hq;clear hq;dsimp only at hT hnil5 ⊢;replace O:=O.ar hT;clear hT;refine uO 1 ?_;refine u1 0 (aj rfl rfl) ?_;refine u1 0 (aj rfl rfl) ?_;refine uW (vs:=[_,_,_]) (cs':=[_,_,_]) rfl rfl gz (O.p 1) ?_;clear O;intro w O;refine uO 6 ?_;refine u1 1 (lS (cs:=[_,_,_]) rfl) ?_
            refine uF rfl (eQ _ (⟨ks5,kn5,ka5,kc5,kh5⟩:aC) 8 (fv hnil5 (O.p 1)).1 (fv (t:=72) hnil5 (O.p 1)).2) ?_;rintro e w ⟨he,hT⟩;rw[decide_eq_true ⟨rfl,show aC.d2 ⟨ks5,kn5,ka5,kc5,kh5⟩=aC.d2 (⟨0,0,none,0,[]⟩:aC) from hkd5⟩]at he;subst he
            ·replace O:Sat _ _ _:=O.ag hT;clear hT;refine u1 8 (aF rfl) ?_;refine u1 2 (ad rfl rfl) ?_;intro a I;replace I:=I.kp [1,2,4,5,6,8,12] rfl;refine⟨(aQ 2 (aC.d2 (⟨self,next,ka,kc,hs⟩:aC))).length-(n+1),by omega,n+1,⟨ks5,kn5,ka5,kc5,kh5⟩,I,nJ (((O.p 3).p 3).p 2),by omega,rfl⟩
           ·intro h87;refine uO 8 ?_;intro a I;replace I:=I.kp [1,2,4,5,6,8] rfl
            first
             | exact⟨_,I,O⟩
          ·intro h84;refine uO 11 ?_;intro a I;replace I:=I.kp [1,2,4,5,6,8] rfl
           first
            | exact⟨_,I,O⟩
         ·intro a w hI;clear O I;obtain⟨z,I,O⟩:=hI;refine rC 3 I ?_;clear I a;refine u1 0 (ak rfl a7) ?_;refine aM 0 0 (db rfl rfl) ?_ ?_
          ·intro h106;refine uO 6 ?_;intro a I;refine y5 I rfl a7 jt O ?_;clear I a O;intro A109 w O;refine uO 1 ?_;intro a I;refine cZ I rfl rfl rfl a7 jt rfl O ((((O.p 2).rd).src a7 (by simp[ai,Value.oneCell']))) (by omega) (by omega) ?_;clear I a O;intro A111 c111 w hc111 O;refine uO 1 ?_;intro a I;refine cZ I rfl rfl rfl a7 jt rfl O (((hR.sat O).src a7 (by simp[ai,Value.oneCell']))) (by omega) (by omega) ?_;clear I a O;intro A113 c113 w hc113 O;have e113:0+(aQ 2 (aC.d2 (⟨self,next,ka,kc,hs⟩:aC))).length+bs.length=((aQ 2 (aC.d2 (⟨self,next,ka,kc,hs⟩:aC)))++bs).length:=by rw[List.length_append];omega
           intro a I;replace O:=gL (cs':=((aQ 2 (aC.d2 (⟨self,next,ka,kc,hs⟩:aC)))++bs).map ai) O e113 (by simp only[List.nil_append,List.map_append]);rw[e113]at I;refine vL I rfl Fo rfl (eX _ A113 c113 ((aQ 2 (aC.d2 (⟨self,next,ka,kc,hs⟩:aC)))++bs) (by rw[List.length_append];omega) O.rd) ?_;clear I a;rintro e w hq;obtain⟨⟨ks3,kn3,ka3,kc3,kh3⟩,hkd3,hnil3,rfl,hT⟩:=jS (k:=2) (f:=bq) (D:=aC.d2) (mY (by decide) (fun d hd=>cR hd) hkS (by omega) (by omega)) hq;clear hq;dsimp only at hT hnil3 ⊢;replace O:=O.ar hT;clear hT;refine⟨_,rfl,?_⟩;refine uO 1 ?_;refine u1 0 (aj rfl rfl) ?_;refine u1 0 (aj rfl rfl) ?_;refine uW (vs:=[_,_,_]) (cs':=[_,_,_]) rfl rfl gz (O.p 2) ?_;clear O;intro w O;refine uO 6 ?_;refine u1 1 (lS (cs:=[_,_,_]) rfl) ?_
           refine uF rfl (eQ _ (⟨ks3,kn3,ka3,kc3,kh3⟩:aC) 8 (fv hnil3 (O.p 1)).1 (fv (t:=72) hnil3 (O.p 1)).2) ?_;rintro e w ⟨he,hT⟩;rw[decide_eq_true ⟨rfl,show aC.d2 ⟨ks3,kn3,ka3,kc3,kh3⟩=aC.d2 (⟨0,0,none,0,[]⟩:aC) from hkd3⟩]at he;subst he
           ·replace O:Sat _ _ _:=O.ag hT;clear hT;refine u1 5 (aF rfl) ?_;intro a I;replace I:=I.kp [1,2,4,5] rfl
            first
             | exact⟨I,(cu O)⟩
             | exact⟨I,(cu (O.p 1))⟩
             | exact⟨I,(cu (O.p 2))⟩
             | exact⟨I,(cu (O.p 3))⟩
             | exact⟨I,(cu (O.p 4))⟩
             | exact⟨I,(cu (O.p 5))⟩
             | exact⟨I,(cu (O.p 6))⟩
             | exact⟨I,(cu (O.p 7))⟩
             | exact⟨I,(cu (O.p 8))⟩
          ·intro h106;refine uO 5 ?_;intro a I;replace I:=I.kp [1,2,4,5] rfl
           first
            | exact⟨I,(cu O)⟩
            | exact⟨I,(cu (O.p 1))⟩
            | exact⟨I,(cu (O.p 2))⟩
            | exact⟨I,(cu (O.p 3))⟩
            | exact⟨I,(cu (O.p 4))⟩
            | exact⟨I,(cu (O.p 5))⟩
            | exact⟨I,(cu (O.p 6))⟩
            | exact⟨I,(cu (O.p 7))⟩
            | exact⟨I,(cu (O.p 8))⟩
      ·dsimp only at hT hnil7 ⊢;replace O:=O.ar hT;clear hT;have hd0:hs.length≠0:=fun h=>(by have hz:(aC.d2 (⟨self,next,ka,kc,hs⟩:aC)).hs=[]:=(by simp[aC.d2,List.eq_nil_of_length_eq_zero h]);exact hno7 _ (yA hz hkS) (wK 2 1 hz))
       refine uO 1 ?_;refine u1 0 (aj rfl rfl) ?_;refine u1 0 (aj rfl rfl) ?_;refine uN qB O ?_;clear O;intro b10 w O;refine uW (vs:=[_,_,_]) (cs':=[_,_,_]) rfl rfl gz O ?_;clear O;intro w O;refine uO 7 ?_;refine u1 2 (cQ (aD rfl rfl) (by omega)) ?_;refine u1 3 (cQ (aD rfl rfl) (by omega)) ?_;refine u1 0 (lS (cs:=[_,_,_]) rfl) ?_;refine u1 0 (ax (cs:=[_,_,_]) rfl vK gz (by exact (O.p 6).aE (xs:=[_,_,_]) rfl)) ?_;refine jL rfl (ik _ (⟨ks6,kn6,ka6,kc6,kh6⟩:aC) (⟨self,next,ka,kc,hs⟩:aC) ⟨(O.p 3).rd,fun h hh=>(by rw[hoz6 h hh];exact r4 _),fun h hh=>fT (O.p 4) h.n2 (List.mem_map.2 ⟨h,hh,rfl⟩)⟩ hsm6 (hp.sat O) hs0) ?_;rintro e w ⟨he,hT⟩;rw[decide_eq_true (show aC.d2 ⟨ks6,kn6,ka6,kc6,kh6⟩=aC.d2 (⟨self,next,ka,kc,hs⟩:aC) from hkd6)]at he;subst he
       ·replace O:Sat _ _ _:=O.ag hT;clear hT;refine u1 6 (aF rfl) ?_;intro a I;refine cf (fun a w=>∃(z:aC),Ag a 122 [(1,.slice A (bs).length c),(2,.pointer (some ⟨b2,0,none⟩)),(4,.bool false),(5,.int .i64 2),(6,.slice A9 ((aQ 2 (aC.d2 (⟨self,next,ka,kc,hs⟩:aC)))).length c9),(8,.pointer (some ⟨b8,0,none⟩))]∧Sat W w ([aV b8 (.cells #[.int .i64 z.self,.int .i64 z.next,.slice z.a z.hs.length z.c] 24),row 5 1 (.slice A9 ((aQ 2 (aC.d2 (⟨self,next,ka,kc,hs⟩:aC)))).length c9) ((aQ 2 (aC.d2 (⟨self,next,ka,kc,hs⟩:aC)))).length (((aQ 2 (aC.d2 (⟨self,next,ka,kc,hs⟩:aC)))).map ai),aV b2 (.cells #[.int .i64 self,.int .i64 next,.slice ka hs.length kc] 24)])) ?_ ?_
        ·refine rC 2 I ?_;clear I a;refine u1 0 (aa rfl cz) ?_;refine u1 0 (an rfl CM (by exact (O.p 6).cell rfl)) ?_;refine u1 0 (ak rfl ff) ?_;refine u1 1 (cQ (aY rfl rfl) (by omega)) ?_;refine u1 0 (cQ (aY rfl rfl) (by omega)) ?_;refine u1 2 (yC rfl rfl IX) ?_;refine u1 2 (dO (aD rfl rfl) (by omega)) ?_;refine u1 0 (aI (sb rfl rfl) (show _=Value.int .i64 1 from rfl)) ?_;refine u1 1 (lS (cs:=[_,_,_]) rfl) ?_;refine jL rfl (eP _ (⟨ks7,kn7,ka7,kc7,kh7⟩:aC) 8 (fv hnil7 (O.p 1)).1 (fv (t:=72) hnil7 (O.p 1)).2) ?_;rintro e w ⟨he,hT⟩;rw[decide_eq_true ⟨rfl,show aC.d1 ⟨ks7,kn7,ka7,kc7,kh7⟩=aC.d1 (⟨0,0,none,0,[]⟩:aC) from hkd7⟩]at he;subst he
         ·replace O:Sat _ _ _:=O.ag hT;clear hT;refine u1 6 (aF rfl) ?_;intro a I;replace I:=I.kp [1,2,4,5,6,8] rfl
          first
           | exact⟨⟨ks6,kn6,ka6,kc6,kh6⟩,I,(nJ (((O.p 6).p 6).p 4))⟩
        ·intro a w hI;clear O I;obtain⟨z,I,O⟩:=hI;refine cf (fun a w=>∃(z:aC),Ag a 122 [(1,.slice A (bs).length c),(2,.pointer (some ⟨b2,0,none⟩)),(4,.bool false),(5,.int .i64 2),(6,.slice A9 ((aQ 2 (aC.d2 (⟨self,next,ka,kc,hs⟩:aC)))).length c9),(8,.pointer (some ⟨b8,0,none⟩))]∧Sat W w ([aV b8 (.cells #[.int .i64 z.self,.int .i64 z.next,.slice z.a z.hs.length z.c] 24),row 5 1 (.slice A9 ((aQ 2 (aC.d2 (⟨self,next,ka,kc,hs⟩:aC)))).length c9) ((aQ 2 (aC.d2 (⟨self,next,ka,kc,hs⟩:aC)))).length (((aQ 2 (aC.d2 (⟨self,next,ka,kc,hs⟩:aC)))).map ai),aV b2 (.cells #[.int .i64 self,.int .i64 next,.slice ka hs.length kc] 24)])) ?_ ?_
         ·refine rC 6 I ?_;clear I a;intro a I;refine wp_loop_ghost (fun (mm:Nat) a w=>∃(n:Nat) (z:aC),Ag a 122 [(1,.slice A (bs).length c),(2,.pointer (some ⟨b2,0,none⟩)),(4,.bool false),(5,.int .i64 2),(6,.slice A9 ((aQ 2 (aC.d2 (⟨self,next,ka,kc,hs⟩:aC)))).length c9),(8,.pointer (some ⟨b8,0,none⟩)),(12,.int .i64 ((n:Nat):Int))]∧Sat W w ([aV b8 (.cells #[.int .i64 z.self,.int .i64 z.next,.slice z.a z.hs.length z.c] 24),row 5 1 (.slice A9 ((aQ 2 (aC.d2 (⟨self,next,ka,kc,hs⟩:aC)))).length c9) ((aQ 2 (aC.d2 (⟨self,next,ka,kc,hs⟩:aC)))).length (((aQ 2 (aC.d2 (⟨self,next,ka,kc,hs⟩:aC)))).map ai),aV b2 (.cells #[.int .i64 self,.int .i64 next,.slice ka hs.length kc] 24)])∧(n≤(aQ 2 (aC.d2 (⟨self,next,ka,kc,hs⟩:aC))).length)∧mm=(aQ 2 (aC.d2 (⟨self,next,ka,kc,hs⟩:aC))).length-n) (aQ 2 (aC.d2 (⟨self,next,ka,kc,hs⟩:aC))).length ?_ ?_
          ·replace I:=I.kp [1,2,4,5,6,8,12] rfl;exact⟨0,_,I,O,(by omega),by omega⟩
          intro m a w hI;clear O I;obtain⟨n,z,I,O,hn,rfl⟩:=hI;refine rC 5 I ?_;clear I a;refine u1 0 (ak rfl a7) ?_;refine aM 0 0 (aq rfl rfl) ?_ ?_
          ·intro h84;refine uO 2 ?_;refine aM 0 0 (aq rfl rfl) ?_ ?_
           ·intro h87;refine uO 13 ?_;refine u1 0 (aI (iF rfl rfl a7 y8 (by omega) (by omega)) (show _=Value.slice A9 ((aQ 2 (aC.d2 (⟨self,next,ka,kc,hs⟩:aC))).take n).length c9 from sX (by omega))) ?_;refine uF rfl (eX _ A9 c9 ((aQ 2 (aC.d2 (⟨self,next,ka,kc,hs⟩:aC))).take n) (by rw[List.length_take];omega) (w4 (O.p 1).rd)) ?_;rintro e w hq;obtain⟨⟨ks5,kn5,ka5,kc5,kh5⟩,hkd5,hnil5,rfl,hT⟩:=jS (k:=2) (f:=bq) (D:=aC.d2) (oX (by decide) (fun d hd=>cR hd) hkS (by omega) (by omega)) hq;clear hq;dsimp only at hT hnil5 ⊢;replace O:=O.ar hT;clear hT;refine uO 1 ?_;refine u1 0 (aj rfl rfl) ?_;refine u1 0 (aj rfl rfl) ?_;refine uW (vs:=[_,_,_]) (cs':=[_,_,_]) rfl rfl gz (O.p 1) ?_;clear O;intro w O;refine uO 6 ?_;refine u1 1 (lS (cs:=[_,_,_]) rfl) ?_
            refine uF rfl (eQ _ (⟨ks5,kn5,ka5,kc5,kh5⟩:aC) 8 (fv hnil5 (O.p 1)).1 (fv (t:=72) hnil5 (O.p 1)).2) ?_;rintro e w ⟨he,hT⟩;rw[decide_eq_true ⟨rfl,show aC.d2 ⟨ks5,kn5,ka5,kc5,kh5⟩=aC.d2 (⟨0,0,none,0,[]⟩:aC) from hkd5⟩]at he;subst he
            ·replace O:Sat _ _ _:=O.ag hT;clear hT;refine u1 8 (aF rfl) ?_;refine u1 2 (ad rfl rfl) ?_;intro a I;replace I:=I.kp [1,2,4,5,6,8,12] rfl;refine⟨(aQ 2 (aC.d2 (⟨self,next,ka,kc,hs⟩:aC))).length-(n+1),by omega,n+1,⟨ks5,kn5,ka5,kc5,kh5⟩,I,nJ (((O.p 3).p 3).p 2),by omega,rfl⟩
           ·intro h87;refine uO 8 ?_;intro a I;replace I:=I.kp [1,2,4,5,6,8] rfl
            first
             | exact⟨_,I,O⟩
          ·intro h84;refine uO 11 ?_;intro a I;replace I:=I.kp [1,2,4,5,6,8] rfl
           first
            | exact⟨_,I,O⟩
         ·intro a w hI;clear O I;obtain⟨z,I,O⟩:=hI;refine rC 3 I ?_;clear I a;refine u1 0 (ak rfl a7) ?_;refine aM 0 0 (db rfl rfl) ?_ ?_
          ·intro h106;refine uO 6 ?_;intro a I;refine y5 I rfl a7 jt O ?_;clear I a O;intro A109 w O;refine uO 1 ?_;intro a I;refine cZ I rfl rfl rfl a7 jt rfl O ((((O.p 2).rd).src a7 (by simp[ai,Value.oneCell']))) (by omega) (by omega) ?_;clear I a O;intro A111 c111 w hc111 O;refine uO 1 ?_;intro a I;refine cZ I rfl rfl rfl a7 jt rfl O (((hR.sat O).src a7 (by simp[ai,Value.oneCell']))) (by omega) (by omega) ?_;clear I a O;intro A113 c113 w hc113 O;have e113:0+(aQ 2 (aC.d2 (⟨self,next,ka,kc,hs⟩:aC))).length+bs.length=((aQ 2 (aC.d2 (⟨self,next,ka,kc,hs⟩:aC)))++bs).length:=by rw[List.length_append];omega
           intro a I;replace O:=gL (cs':=((aQ 2 (aC.d2 (⟨self,next,ka,kc,hs⟩:aC)))++bs).map ai) O e113 (by simp only[List.nil_append,List.map_append]);rw[e113]at I;refine vL I rfl Fo rfl (eX _ A113 c113 ((aQ 2 (aC.d2 (⟨self,next,ka,kc,hs⟩:aC)))++bs) (by rw[List.length_append];omega) O.rd) ?_;clear I a;rintro e w hq;obtain⟨⟨ks3,kn3,ka3,kc3,kh3⟩,hkd3,hnil3,rfl,hT⟩:=jS (k:=2) (f:=bq) (D:=aC.d2) (mY (by decide) (fun d hd=>cR hd) hkS (by omega) (by omega)) hq;clear hq;dsimp only at hT hnil3 ⊢;replace O:=O.ar hT;clear hT;refine⟨_,rfl,?_⟩;refine uO 1 ?_;refine u1 0 (aj rfl rfl) ?_;refine u1 0 (aj rfl rfl) ?_;refine uW (vs:=[_,_,_]) (cs':=[_,_,_]) rfl rfl gz (O.p 2) ?_;clear O;intro w O;refine uO 6 ?_;refine u1 1 (lS (cs:=[_,_,_]) rfl) ?_
           refine uF rfl (eQ _ (⟨ks3,kn3,ka3,kc3,kh3⟩:aC) 8 (fv hnil3 (O.p 1)).1 (fv (t:=72) hnil3 (O.p 1)).2) ?_;rintro e w ⟨he,hT⟩;rw[decide_eq_true ⟨rfl,show aC.d2 ⟨ks3,kn3,ka3,kc3,kh3⟩=aC.d2 (⟨0,0,none,0,[]⟩:aC) from hkd3⟩]at he;subst he
           ·replace O:Sat _ _ _:=O.ag hT;clear hT;refine u1 5 (aF rfl) ?_;intro a I;replace I:=I.kp [1,2,4,5] rfl
            first
             | exact⟨I,(cu O)⟩
             | exact⟨I,(cu (O.p 1))⟩
             | exact⟨I,(cu (O.p 2))⟩
             | exact⟨I,(cu (O.p 3))⟩
             | exact⟨I,(cu (O.p 4))⟩
             | exact⟨I,(cu (O.p 5))⟩
             | exact⟨I,(cu (O.p 6))⟩
             | exact⟨I,(cu (O.p 7))⟩
             | exact⟨I,(cu (O.p 8))⟩
          ·intro h106;refine uO 5 ?_;intro a I;replace I:=I.kp [1,2,4,5] rfl
           first
            | exact⟨I,(cu O)⟩
            | exact⟨I,(cu (O.p 1))⟩
            | exact⟨I,(cu (O.p 2))⟩
            | exact⟨I,(cu (O.p 3))⟩
            | exact⟨I,(cu (O.p 4))⟩
            | exact⟨I,(cu (O.p 5))⟩
            | exact⟨I,(cu (O.p 6))⟩
            | exact⟨I,(cu (O.p 7))⟩
            | exact⟨I,(cu (O.p 8))⟩
    ·replace O:Sat _ _ _:=O.ag hT;clear hT;refine uO 1 ?_;refine u1 0 (aj rfl rfl) ?_;refine u1 8 (aj rfl rfl) ?_;refine u1 0 (lS (cs:=[_,_,_]) rfl) ?_;refine uF rfl (mq _ (⟨self,next,ka,kc,hs⟩:aC) (hp.sat O) hs0) ?_;rintro e w ⟨he,hT⟩;rw[hkS]at he;subst he
     ·replace O:Sat _ _ _:=O.ag hT;clear hT;refine u1 7 (aF rfl) ?_;refine u1 2 (cQ (aD rfl rfl) (by omega)) ?_;refine u1 0 (ak rfl a7) ?_;refine u1 9 (cQ (aD rfl rfl) (by omega)) ?_;intro a I;replace I:=I.kp [1,2,4,5] rfl
      first
       | exact⟨I,(cu O)⟩
       | exact⟨I,(cu (O.p 1))⟩
       | exact⟨I,(cu (O.p 2))⟩
       | exact⟨I,(cu (O.p 3))⟩
       | exact⟨I,(cu (O.p 4))⟩
       | exact⟨I,(cu (O.p 5))⟩
       | exact⟨I,(cu (O.p 6))⟩
       | exact⟨I,(cu (O.p 7))⟩
       | exact⟨I,(cu (O.p 8))⟩
   ·intro a w hI;clear O I;obtain⟨I,O⟩:=hI;refine rC 2 I ?_;clear I a;refine u1 2 (aI (ad rfl rfl) (show _=Value.int .i64 3 from rfl)) ?_;intro a I;refine a6 ?_;refine rC 4 I ?_;clear I a;refine u1 8 (cQ (dT rfl rfl) (by omega)) ?_;intro a I;replace I:=I.kp [4] rfl;refine rC 6 I ?_;clear I a;refine aU ?_;exact⟨rfl,O.nil⟩
end Go.Proofs.YtkjabaihpkbfhaaGreat.Wk
namespace Go.Proofs.YtkjabaihpkbfhaaGreat.K
open Go Go.RowKit
theorem B5 {α:Type}{css:List (List Value)}{zs:List α}(enc:α→List Value)(hl:css.length=zs.length)(h:∀(i:Nat) (x:List Value) (a:α),css[i]?=some x→zs[i]?=some a→x=enc a):css=zs.map enc:=by
 refine List.ext_getElem? fun i=>?_;rw[List.getElem?_map];cases ho:zs[i]? with
 | none=>simp at ho;simp;omega
 | some o =>
   have hil:=(List.getElem?_eq_some_iff.1 ho).1;have hx:=List.getElem?_eq_getElem (show i<css.length by omega);rw[hx,h i _ o hx ho];rfl
theorem Ef {α:Type}{css:List (List Value)}{zs:List α}{p:α→Prop}(hl:css.length=zs.length)(h:∀(i:Nat) (x:List Value) (a:α),css[i]?=some x→zs[i]?=some a→p a):∀a∈zs,p a:=fun o ho=>by
 obtain⟨i,hi⟩:=List.mem_iff_getElem?.1 ho;have hil:i<zs.length:=(List.getElem?_eq_some_iff.1 hi).1;exact h i _ o (List.getElem?_eq_getElem (show i<css.length by omega)) hi
theorem xh {α:Type}{f:α→Nat}(hf:∀x,1≤f x):∀l:List α,l.length≤(l.map f).sum
 | []=>Nat.le_refl _
 | x :: l => by
   have:=xh hf l;have:=hf x;simp only[List.map_cons,List.sum_cons,List.length_cons];omega
theorem G4 {x:Int}(h:(Lit.int .u8 x).wf=true):0≤x∧x≤255:=by
 simp[Lit.wf,IntKind.min,IntKind.max,IntKind.signed,IntKind.bits]at h;omega
theorem lk.list {P:Program}{W:World}{t e sz by_:Nat}{α:Type}{rN:α→List Value}{R:α→Prop}{wb:α→Prop}{bk:α→Nat}(ht:P.underlying t=some (.slice e))(hs:P.cellsOf t=1)(hb:P.bytesOf e=by_)(h:lk P W e sz (fun cs a=>cs=rN a∧R a) wb bk) :
 lk P W t 1 (fun cs (az:List α)=>∃A c,cs=[.slice A az.length c]∧Rd W sz (.slice A az.length c) az.length (az.flatMap rN)∧∀a∈az,R a) (fun az=>az.length * by_≤reachBytes∧∀a∈az,wb a) (fun az=>(az.map bk).sum+1):=by
 have h:=lk.slice ht hs hb h;refine⟨h.size,fun enc B hB fuel cs d p e=>?_⟩;obtain⟨xs,⟨A,c,css,h5,hc,hR,hcl,_,hrel⟩,hw,hbk⟩:=h.open_ enc B hB fuel cs d p e;have hcs:=B5 rN hcl fun i x a h1 h2=>(hrel i x a h1 h2).1
 rw[hcs,←List.flatMap_def]at hR;exact⟨xs,⟨A,c,h5,hR,Ef hcl fun i x a h1 h2=>(hrel i x a h1 h2).2⟩,hw,hbk⟩
end Go.Proofs.YtkjabaihpkbfhaaGreat.K
namespace Go.Proofs.YtkjabaihpkbfhaaGreat.Wk
open Go Go.RowKit Go.Proofs.YtkjabaihpkbfhaaGreat Go.Proofs.YtkjabaihpkbfhaaGreat.K Go.Proofs.YtkjabaihpkbfhaaGreat.T
section
variable (W:World)
theorem vE:lk Tryz.prog W 3 1 (fun cs (a:Int)=>cs=[.int .i64 a]∧(Lit.int .i64 a).wf=true) (fun _=>True) (fun _=>1):=lk.int (by kernel_rfl) (by kernel_rfl)
theorem FY:lk Tryz.prog W 3 1 (fun cs (a:Int)=>cs=[iv a]∧True) (fun _=>True) (fun _=>1):=by
 have h:=vE W;refine⟨h.size,fun enc B hB fuel cs d p e=>?_⟩;obtain⟨a,⟨h1,_⟩,h2,h3⟩:=h.open_ enc B hB fuel cs d p e;exact⟨a,⟨h1,trivial⟩,h2,h3⟩
theorem Ja:lk Tryz.prog W 9 1 (fun cs (a:ByteArray)=>cs=[.string a]∧a.size≤maxLen) (fun a=>a.size≤reachBytes) (fun a=>a.size+1):=lk.str (by kernel_rfl) (by kernel_rfl)
theorem F0:lk Tryz.prog W 219 3 (fun cs (o:aN)=>cs=gi o∧True) (fun _=>True) (fun _=>4):=by
 have h:=lk.struct (P:=Tryz.prog) (W:=W) (t:=219) (sz:=3) (fl:=[(3,0),(3,1),(3,2)]) (by kernel_rfl) (by kernel_rfl) (gr.cons (vE W) (gr.cons (vE W) (gr.cons (vE W) gr.nil)));refine⟨h.size,fun enc B hB fuel cs d p e=>?_⟩;obtain⟨⟨x0,x1,x2,_⟩,⟨hl,⟨e0,_⟩,⟨e1,_⟩,⟨e2,_⟩,_⟩,_,hbk⟩:=h.open_ enc B hB fuel cs d p e
 obtain⟨c0,c1,c2,rfl⟩:∃c0 c1 c2,cs=[c0,c1,c2]:=by
  match cs,hl with
  | [c0,c1,c2],_=>exact⟨c0,c1,c2,rfl⟩
 dsimp only at e0 e1 e2 hbk;simp at e0 e1 e2;subst e0 e1 e2;exact⟨⟨x0,x1,x2⟩,⟨rfl,trivial⟩,fun _=>trivial,by omega⟩
theorem Hd:lk Tryz.prog W 214 2 (fun cs (o:gk)=>cs=p6 o) (fun _=>True) (fun _=>3):=by
 have h:=lk.struct (P:=Tryz.prog) (W:=W) (t:=214) (sz:=2) (fl:=[(3,0),(3,1)]) (by kernel_rfl) (by kernel_rfl) (gr.cons (vE W) (gr.cons (vE W) gr.nil));refine⟨h.size,fun enc B hB fuel cs d p e=>?_⟩;obtain⟨⟨x0,x1,_⟩,⟨hl,⟨e0,_⟩,⟨e1,_⟩,_⟩,_,hbk⟩:=h.open_ enc B hB fuel cs d p e
 obtain⟨c0,c1,rfl⟩:∃c0 c1,cs=[c0,c1]:=by
  match cs,hl with
  | [c0,c1],_=>exact⟨c0,c1,rfl⟩
 dsimp only at e0 e1 hbk;simp at e0 e1;subst e0 e1;exact⟨⟨x0,x1⟩,rfl,fun _=>trivial,by omega⟩
theorem GR:lk Tryz.prog W 216 4 (fun cs (o:aS)=>cs=mf o∧True) (fun _=>True) (fun o=>o.cw.size+6):=by
 have h:=lk.struct (P:=Tryz.prog) (W:=W) (t:=216) (sz:=4) (fl:=[(214,0),(9,2),(3,3)]) (by kernel_rfl) (by kernel_rfl) (gr.cons (Hd W) (gr.cons (Ja W) (gr.cons (vE W) gr.nil)));refine⟨h.size,fun enc B hB fuel cs d p e=>?_⟩;obtain⟨⟨x0,x2,x3,_⟩,⟨hl,e0,⟨e2,_⟩,⟨e3,_⟩,_⟩,_,hbk⟩:=h.open_ enc B hB fuel cs d p e
 obtain⟨c0,c1,c2,c3,rfl⟩:∃c0 c1 c2 c3,cs=[c0,c1,c2,c3]:=by
  match cs,hl with
  | [c0,c1,c2,c3],_=>exact⟨c0,c1,c2,c3,rfl⟩
 dsimp only at e0 e2 e3 hbk;simp[p6]at e0 e2 e3;obtain⟨e0,e1⟩:=e0;subst e0 e1 e2 e3;exact⟨⟨x0.rep,x0.num,x2,x3⟩,⟨rfl,trivial⟩,fun _=>trivial,by dsimp only at hbk ⊢;omega⟩
theorem rF {α:Type}(k:Nat):∀l:List α,(l.map fun _=>k).sum=l.length * k
 | []=>by simp
 | x::l=>by simp[rF k l,Nat.add_mul,Nat.add_comm]
theorem Gj:∀xs:List Int,(xs.flatMap fun x=>[iv x])=xs.map (Value.int .i64)
 | []=>rfl
 | x::xs=>by rw[List.flatMap_cons,Gj xs];rfl
theorem Hw:lk Tryz.prog W 60 1 (fun cs (l:Loc Int)=>cs=[.slice l.a l.xs.length l.c]∧kb W l.a l.c l.xs) (fun _=>True) (fun l=>l.xs.length+1):=by
 have h:=lk.list (P:=Tryz.prog) (W:=W) (t:=60) (e:=3) (rN:=fun x=>[iv x]) (R:=fun _=>True) (by kernel_rfl) (by kernel_rfl) rfl (FY W);refine⟨h.size,fun enc B hB fuel cs d p e=>?_⟩;obtain⟨xs,⟨A,c,h1,hR,_⟩,_,hbk⟩:=h.open_ enc B hB fuel cs d p e;rw[rF]at hbk;refine⟨⟨A,c,xs⟩,⟨h1,?_⟩,fun _=>trivial,by dsimp only;omega⟩
 have:(xs.flatMap fun x=>[iv x])=xs.map (Value.int .i64):=by
  exact Gj xs
 rwa[this]at hR
theorem D5:lk Tryz.prog W 61 1 (fun cs (l:Loc aN)=>cs=[.slice l.a l.xs.length l.c]∧gK W l.a l.c l.xs) (fun _=>True) (fun l=>l.xs.length * 4+1):=by
 have h:=lk.list (P:=Tryz.prog) (W:=W) (t:=61) (e:=219) (rN:=gi) (R:=fun _=>True) (by kernel_rfl) (by kernel_rfl) rfl (F0 W);refine⟨h.size,fun enc B hB fuel cs d p e=>?_⟩;obtain⟨xs,⟨A,c,h1,hR,_⟩,_,hbk⟩:=h.open_ enc B hB fuel cs d p e;rw[rF]at hbk;exact⟨⟨A,c,xs⟩,⟨h1,hR⟩,fun _=>trivial,by dsimp only;omega⟩
def HE (es:List aS):Nat:=(es.map fun o=>o.cw.size+6).sum+1
def Dy (p:aK):Nat:=p.vec.length+p.ab.length * 4+3
def Co (r:RL):Nat:=r.cw.size+Dy r.p.d+2
def Ck (rs:List RL):Nat:=(rs.map Co).sum+1
def vU (s:SL):Nat:=HE s.e.es+Dy s.p.d+Ck s.r.rs+1
def Dx (h:KL):Nat:=vU h.f+vU h.s+2
def y3 (x:aC):Nat:=(x.hs.map Dx).sum+4
theorem FF:lk Tryz.prog W 59 1 (fun cs (l:HD)=>cs=[.slice l.a l.es.length l.c]∧l.ok W) (fun _=>True) (fun l=>HE l.es):=by
 have h:=lk.list (P:=Tryz.prog) (W:=W) (t:=59) (e:=216) (rN:=mf) (R:=fun _=>True) (by kernel_rfl) (by kernel_rfl) rfl (GR W);refine⟨h.size,fun enc B hB fuel cs d p e=>?_⟩;obtain⟨xs,⟨A,c,h1,hR,_⟩,_,hbk⟩:=h.open_ enc B hB fuel cs d p e;exact⟨⟨A,c,xs⟩,⟨h1,hR⟩,fun _=>trivial,hbk⟩
theorem B1:lk Tryz.prog W 63 2 (fun cs (p:PL)=>cs=om p∧p.ok W) (fun _=>True) (fun p=>Dy p.d):=by
 have h:=lk.struct (P:=Tryz.prog) (W:=W) (t:=63) (sz:=2) (fl:=[(60,0),(61,1)]) (by kernel_rfl) (by kernel_rfl) (gr.cons (Hw W) (gr.cons (D5 W) gr.nil));refine⟨h.size,fun enc B hB fuel cs d p e=>?_⟩;obtain⟨⟨x0,x1,_⟩,⟨hl,⟨e0,r0⟩,⟨e1,r1⟩,_⟩,_,hbk⟩:=h.open_ enc B hB fuel cs d p e
 obtain⟨c0,c1,rfl⟩:∃c0 c1,cs=[c0,c1]:=by
  match cs,hl with
  | [c0,c1],_=>exact⟨c0,c1,rfl⟩
 dsimp only at e0 e1 hbk r0 r1;simp at e0 e1;subst e0 e1;exact⟨⟨x0.a,x0.c,x1.a,x1.c,⟨x0.xs,x1.xs⟩⟩,⟨rfl,r0,r1⟩,fun _=>trivial,by dsimp only[Dy]at hbk ⊢;omega⟩
theorem Hf:lk Tryz.prog W 206 3 (fun cs (r:RL)=>cs=jb r∧r.p.ok W) (fun _=>True) Co:=by
 have h:=lk.struct (P:=Tryz.prog) (W:=W) (t:=206) (sz:=3) (fl:=[(9,0),(63,1)]) (by kernel_rfl) (by kernel_rfl) (gr.cons (Ja W) (gr.cons (B1 W) gr.nil));refine⟨h.size,fun enc B hB fuel cs d p e=>?_⟩;obtain⟨⟨x0,x1,_⟩,⟨hl,⟨e0,_⟩,⟨e1,r1⟩,_⟩,_,hbk⟩:=h.open_ enc B hB fuel cs d p e
 obtain⟨c0,c1,c2,rfl⟩:∃c0 c1 c2,cs=[c0,c1,c2]:=by
  match cs,hl with
  | [c0,c1,c2],_=>exact⟨c0,c1,c2,rfl⟩
 dsimp only at e0 e1 hbk r1;simp[om]at e0 e1;obtain⟨e1,e2⟩:=e1;subst e0 e1 e2;exact⟨⟨x0,x1⟩,⟨rfl,r1⟩,fun _=>trivial,by unfold Co;dsimp only at hbk ⊢;omega⟩
theorem FH:lk Tryz.prog W 64 1 (fun cs (l:jz)=>cs=[.slice l.a l.rs.length l.c]∧l.ok W) (fun _=>True) (fun l=>Ck l.rs):=by
 have h:=lk.list (P:=Tryz.prog) (W:=W) (t:=64) (e:=206) (rN:=jb) (R:=fun r=>r.p.ok W) (by kernel_rfl) (by kernel_rfl) rfl (Hf W);refine⟨h.size,fun enc B hB fuel cs d p e=>?_⟩;obtain⟨xs,⟨A,c,h1,hR,hr⟩,_,hbk⟩:=h.open_ enc B hB fuel cs d p e;exact⟨⟨A,c,xs⟩,⟨h1,⟨hR,hr⟩⟩,fun _=>trivial,hbk⟩
theorem zE {t:Nat}(ht:placesOf Tryz.prog t=some [(59,0),(63,1),(64,3)])(hc:Tryz.prog.cellsOf t=4):lk Tryz.prog W t 4 (fun cs (s:SL)=>cs=oC s∧s.ok W) (fun _=>True) vU:=by
 have h:=lk.struct (P:=Tryz.prog) (W:=W) (t:=t) (sz:=4) (fl:=[(59,0),(63,1),(64,3)]) ht hc (gr.cons (FF W) (gr.cons (B1 W) (gr.cons (FH W) gr.nil)));refine⟨h.size,fun enc B hB fuel cs d p e=>?_⟩;obtain⟨⟨x0,x1,x2,_⟩,⟨hl,⟨e0,r0⟩,⟨e1,r1⟩,⟨e2,r2⟩,_⟩,_,hbk⟩:=h.open_ enc B hB fuel cs d p e
 obtain⟨c0,c1,c2,c3,rfl⟩:∃c0 c1 c2 c3,cs=[c0,c1,c2,c3]:=by
  match cs,hl with
  | [c0,c1,c2,c3],_=>exact⟨c0,c1,c2,c3,rfl⟩
 dsimp only at e0 e1 e2 hbk r0 r1 r2;simp[om]at e0 e1 e2;obtain⟨e1,e3⟩:=e1;subst e0 e1 e2 e3;exact⟨⟨x0,x1,x2⟩,⟨rfl,r0,r1,r2⟩,fun _=>trivial,by unfold vU;dsimp only at hbk ⊢;omega⟩
theorem F4:lk Tryz.prog W 72 9 (fun cs (h:KL)=>cs=iU h∧(h.f.ok W∧h.s.ok W)) (fun _=>True) Dx:=by
 have h:=lk.struct (P:=Tryz.prog) (W:=W) (t:=72) (sz:=9) (fl:=[(3,0),(66,1),(70,5)]) (by kernel_rfl) (by kernel_rfl) (gr.cons (vE W) (gr.cons (zE W (t:=66) (by kernel_rfl) (by kernel_rfl)) (gr.cons (zE W (t:=70) (by kernel_rfl) (by kernel_rfl)) gr.nil)));refine⟨h.size,fun enc B hB fuel cs d p e=>?_⟩;obtain⟨⟨x0,x1,x2,_⟩,⟨hl,⟨e0,_⟩,⟨e1,r1⟩,⟨e2,r2⟩,_⟩,_,hbk⟩:=h.open_ enc B hB fuel cs d p e
 obtain⟨c0,c1,c2,c3,c4,c5,c6,c7,c8,rfl⟩:∃c0 c1 c2 c3 c4 c5 c6 c7 c8,cs=[c0,c1,c2,c3,c4,c5,c6,c7,c8]:=by
  match cs,hl with
  | [c0,c1,c2,c3,c4,c5,c6,c7,c8],_=>exact⟨c0,c1,c2,c3,c4,c5,c6,c7,c8,rfl⟩
 dsimp only at e0 e1 e2 hbk r1 r2;simp[oC]at e0 e1 e2;obtain⟨e1,e3,e4,e5⟩:=e1;obtain⟨e2,e6,e7,e8⟩:=e2;subst e0 e1 e2 e3 e4 e5 e6 e7 e8;exact⟨⟨x0,x1,x2⟩,⟨rfl,r1,r2⟩,fun _=>trivial,by unfold Dx;dsimp only at hbk ⊢;omega⟩
theorem Jn:lk Tryz.prog W 24 3 (fun cs (x:aC)=>cs=[.int .i64 x.self,.int .i64 x.next,.slice x.a x.hs.length x.c]∧x.ok W) (fun _=>True) y3:=by
 have hs:=lk.list (P:=Tryz.prog) (W:=W) (t:=22) (e:=72) (rN:=iU) (R:=fun h=>h.f.ok W∧h.s.ok W) (by kernel_rfl) (by kernel_rfl) rfl (F4 W);have h:=lk.struct (P:=Tryz.prog) (W:=W) (t:=24) (sz:=3) (fl:=[(3,0),(3,1),(22,2)]) (by kernel_rfl) (by kernel_rfl) (gr.cons (vE W) (gr.cons (vE W) (gr.cons hs gr.nil)));refine⟨h.size,fun enc B hB fuel cs d p e=>?_⟩;obtain⟨⟨x0,x1,x2,_⟩,⟨hl,⟨e0,_⟩,⟨e1,_⟩,⟨A,c,e2,hR,hr⟩,_⟩,_,hbk⟩:=h.open_ enc B hB fuel cs d p e
 obtain⟨c0,c1,c2,rfl⟩:∃c0 c1 c2,cs=[c0,c1,c2]:=by
  match cs,hl with
  | [c0,c1,c2],_=>exact⟨c0,c1,c2,rfl⟩
 dsimp only at e0 e1 e2 hbk hR hr;simp at e0 e1 e2;subst e0 e1 e2;exact⟨⟨x0,x1,A,c,x2⟩,⟨rfl,hR,fun h hh=>(hr h hh).1,fun h hh=>(hr h hh).2⟩,fun _=>trivial,by unfold y3;dsimp only at hbk ⊢;omega⟩
end
theorem sW {α:Type}{f:α→Nat}:∀ {l:List α} {x:α},x∈l→f x≤(l.map f).sum
 | y :: l, x, h => by
   rw[List.map_cons,List.sum_cons];rcases List.mem_cons.1 h with rfl | h
   ·
    omega
   ·
    have:=sW (f:=f) h;omega
theorem j9.of {s:SL}(h:vU s≤1048576):j9 s:=by
 unfold vU HE Dy Ck at h;have h1:=xh (f:=fun o:aS=>o.cw.size+6) (fun x=>by omega) s.e.es;refine⟨by omega,by omega,by omega,fun r hr=>?_,?_⟩
 ·
  have:=sW (f:=Co) hr;have h2:r.p.d.vec.length≤Co r:=by unfold Co Dy;omega
  omega
 ·
  have:cP (s.r.rs.map fun r=>r.p.d)≤(s.r.rs.map Co).sum:=by
   clear h h1
   generalize s.r.rs=rs
   induction rs with
   | nil=>exact Nat.zero_le _
   | cons r rs ih =>
     unfold cP at *;simp only[List.map_cons,List.sum_cons];have:r.p.d.ab.length+1≤Co r:=by unfold Co Dy;omega
     omega
  omega
theorem aC.Jl {x:aC}(h:y3 x≤1048576):x.small:=by
 unfold y3 at h;have h1:=xh (f:=Dx) (fun x=>by unfold Dx;omega) x.hs;refine⟨by omega,fun y hy=>j9.of ?_,fun y hy=>j9.of ?_⟩<;>(have:=sW (f:=Dx) hy;have h2:vU y.f+vU y.s+2=Dx y:=rfl;omega)
theorem J1 (W:World):lk Tryz.prog W 26 1 (fun cs (f:Loc UInt8)=>cs=[.slice f.a f.xs.length f.c]∧Rd W 1 (.slice f.a f.xs.length f.c) f.xs.length (f.xs.map ai)) (fun _=>True) (fun f=>f.xs.length+1):=by
 have hi:=lk.int (P:=Tryz.prog) (W:=W) (t:=5) (k:=.u8) (by kernel_rfl) (by kernel_rfl);have h:=lk.slice (P:=Tryz.prog) (W:=W) (t:=26) (by_:=1) (by kernel_rfl) (by kernel_rfl) (by kernel_rfl) hi;refine⟨h.size,fun enc B hB fuel cs d p e=>?_⟩;obtain⟨xs,⟨A,c,css,h5,hc,hR,hcl,_,hrel⟩,hw,hbk⟩:=h.open_ enc B hB fuel cs d p e;have hcs:=B5 (fun x=>[Value.int .u8 x]) hcl fun i x a h1 h2=>(hrel i x a h1 h2).1
 have hal:∀x∈xs,0≤x∧x≤255:=Ef hcl fun i x a h1 h2=>G4 (hrel i x a h1 h2).2
 have e2:List.flatten (xs.map fun x=>[Value.int .u8 x])=(xs.map b8).map ai:=by
  clear hR hcs hbk hrel hcl hw h5 e
  induction xs with
  | nil=>rfl
  | cons x xs ih =>
    have h0:=hal x List.mem_cons_self;simp only[List.map_cons,List.flatten_cons,ih (fun y hy=>hal y (List.mem_cons_of_mem _ hy))];rw[Ec h0.1 h0.2];rfl
 have el:(xs.map b8).length=xs.length:=by simp
 rw[hcs,e2]at hR;refine⟨⟨A,c,xs.map b8⟩,⟨by rw[h5];simp,?_⟩,fun hh=>trivial,?_⟩
 ·
  show Rd W 1 (.slice A (xs.map b8).length c) (xs.map b8).length ((xs.map b8).map ai);rw[el];exact hR
 ·
  have:=xh (f:=fun _:Int=>1) (fun _=>Nat.le_refl _) xs;simp;omega
theorem wx {p:aK}(h:A6 p)(hc:p.ab.length≤1000000000):(cB p).length≤18+9 * p.vec.length+27 * p.ab.length:=by
 unfold cB;have hv:=h.len;have h1:=nine (n:=p.vec.length) (by omega);have h2:=nine (n:=p.ab.length) (by omega)
 have h3:(seqB (ko 1000000000).g none p.vec).length≤p.vec.length * 9:=by
  refine u9 (F:=(ko 1000000000).F) (fun _ x hx=>?_) _ _ (me.2 fun v hv2=>?_)
  ·
   exact nine (by have:=hx.1;have:=hx.2.2;omega)
  ·
   have:=h.vec v hv2;omega
 have h4:(seqB (gS p.vec) none p.ab).length≤p.ab.length * 27:=by
  have hcl:jc (fun a b=>gw p.vec a b=true) none p.ab:=oI.1 h.ab
  have hb:∀(l:List aN) (q:Option aN),jc (fun a b=>gw p.vec a b=true) q l→(∀y,q=some y→0≤y.rep∧0≤y.hi)→(seqB (gS p.vec) q l).length≤l.length * 27:=by
   intro l
   induction l with
   | nil=>intro q _ _;simp[seqB]
   | cons x l ih =>
     intro q hq hy;obtain⟨a,b,c,d,e,f⟩:=xY hq.1;have hp:0≤cE q:=by unfold cE;cases q with | none=>simp | some y=>exact (hy y rfl).1
     have hl:0≤bt p.vec q x.rep:=by
      unfold bt;have:=du h.vec x.rep.toNat;cases q with
      | none=>simp only;omega
      | some y=>have:=(hy y rfl).2;simp only;split<;>omega
     have h5:=ih (some x) hq.2 (fun y hy2=>by cases hy2;exact⟨a,by omega⟩);have n1:=nine (n:=(x.rep-cE q).toNat) (by omega);have n2:=nine (n:=(x.lo-bt p.vec q x.rep).toNat) (by omega);have n3:=nine (n:=(x.hi-x.lo).toNat) (by omega);have hg:(gS p.vec q x).length≤27:=by unfold gS;simp only[List.length_append];omega
     rw[seqB,List.length_append,List.length_cons,Nat.add_mul];omega
  exact hb _ none hcl (fun y hy=>by cases hy)
 simp only[List.length_append];omega
theorem yn:∀(l:List RL) (q:Option bS),(∀r∈l,fg r.d=true∧r.p.d.ab.length≤1000000000)→(seqB iq q (l.map RL.d)).length≤9 * (l.map Co).sum
 | [],q,_=>by simp[seqB]
 | x :: l, q, hq => by
   obtain⟨hw0,hw1⟩:=ml (hq x (by simp)).1;have h3:=wx hw1.toA6 (hq x (by simp)).2;have h4:=yn l (some x.d) (fun r hr=>hq r (by simp[hr]));have h5:=nine (n:=x.d.cw.data.toList.length) (by omega)
   have hg:(iq q x.d).length≤9+x.cw.size+(cB x.d.bB).length:=by
    unfold iq;simp only[List.length_append];have:x.d.cw.data.toList.length=x.cw.size:=by show x.cw.data.toList.length=_;rw[Array.length_toList];rfl
    omega
   rw[List.map_cons,List.map_cons,seqB,List.length_append,List.sum_cons];have h6:x.d.bB=x.p.d:=rfl;rw[h6]at hg h3;unfold Co Dy;unfold Co Dy at h4;omega
theorem GQ {k:Nat}{s:SL}(hk:k≤2)(hf:ay s.d=true)(hb:vU s≤1048576):(ck k s.d).length≤10 * vU s+20:=by
 have hs:=j9.of hb;obtain⟨h1,h2,h3⟩:=aZ hf;have hes:=hs.es;have hpc:=hs.pc;have k1:=lh (jn h1) (by show s.e.es.length≤_;omega);have k2:=wx (fB.1 h2).toA6 (by show s.p.d.ab.length≤_;omega)
 have k3:(bV s.d.l6).length≤9+9 * (s.r.rs.map Co).sum:=by
  have hl:=jg hs.rs;unfold bV;have n1:=nine (n:=s.d.l6.length) (by show (s.r.rs.map RL.d).length≤_;rw[List.length_map];omega);have n2:=yn s.r.rs none (fun r hr=>⟨fE h3 r.d (List.mem_map.2 ⟨r,hr,rfl⟩),by have:=(eR hs.rv hs.rs r hr).2;omega⟩);rw[List.length_append];show _+(seqB iq none (s.r.rs.map RL.d)).length≤_;omega
 have e1:s.d.ly=s.e.es:=rfl;have e2:s.d.bB=s.p.d:=rfl;rw[e1]at k1;rw[e2]at k2;unfold vU HE Dy Ck at hb ⊢
 have b1:6 * s.e.es.length≤(s.e.es.map fun o=>o.cw.size+6).sum:=by
  clear hb k1 hes hs
  generalize s.e.es=es
  induction es with
  | nil=>simp
  | cons x es ih=>simp only[List.map_cons,List.sum_cons,List.length_cons];omega
 have k4:=nine (n:=(cJ s.d.ly).length) (by rw[e1];omega);have k5:=nine (n:=(cB s.d.bB).length) (by rw[e2];omega);have k6:=nine (n:=(bV s.d.l6).length) (by omega);have k7:=nine (n:=k) (by omega);unfold ck fr;rw[e1,e2]at *;simp only[List.length_append];omega
theorem wC (k:Nat)(hk:k≤2)(g:KL→NL)(hg:∀h,vU (g h).s+8≤Dx h):∀hs:List KL,(∀h∈hs,0≤(g h).a8∧(g h).a8<64∧ay (g h).s.d=true∧Dx h≤1048576)→(bd k ((hs.map g).map NL.d)).length≤10 * (hs.map Dx).sum
 | [],_=>by simp[bd]
 | x :: hs, h => by
   have h1:=wC k hk g hg hs (fun y hy=>h y (by simp[hy]));obtain⟨a,b,c,d⟩:=h x (by simp);have h2:=GQ hk c (by have:=hg x;omega);have h3:=hg x;have n1:=nine (n:=(g x).a8.toNat) (by omega);have n2:=nine (n:=(ck k (g x).s.d).length) (by omega);have e:bd k (((x::hs).map g).map NL.d)=(aJ (g x).a8.toNat++(aJ (ck k (g x).s.d).length++ck k (g x).s.d))++bd k ((hs.map g).map NL.d):=rfl;rw[e,List.map_cons,List.sum_cons];simp only[List.length_append];omega
theorem By {k:Nat}{f:iX→Bool}(hk:k≤2)(hf:∀d,f d=true→ay d=true){x:aC}(g:KL→NL)(hg:∀h,vU (g h).s+8≤Dx h)(hb:y3 x≤1048576)(hok:ij f ⟨x.self,x.next,(x.hs.map g).map NL.d⟩=true):(aQ k ⟨x.self,x.next,(x.hs.map g).map NL.d⟩).length≤12000000:=by
 obtain⟨a1,a2,a3,a4,a5⟩:=cD (eJ hok);have hl:=iJ a5;unfold y3 at hb
 have h1:=wC k hk g hg x.hs (fun h hh=>by
  have hm:(g h).d∈(x.hs.map g).map NL.d:=List.mem_map.2 ⟨g h,List.mem_map.2 ⟨h,hh,rfl⟩,rfl⟩;obtain⟨c1,c2⟩:=ku a5 _ hm;exact⟨c1,c2,hf _ (s6 hok _ hm),by have:=sW (f:=Dx) hh;omega⟩)
 have h2:=DZ (s:=x.self.toNat) (n:=x.next.toNat) (c:=((x.hs.map g).map NL.d).length) (by simp only at a1 a2;omega) (by simp only at a3 a4;omega) (by simp only at hl;omega);unfold aQ;rw[ln];unfold cm;rw[List.length_append];simp only at h2 h1 ⊢;omega
theorem IM {x:aC}(hb:y3 x≤1048576)(hok:ij ay x.d1=true):(aQ 1 x.d1).length≤12000000:=By (by decide) (fun _ h=>h) KL.n1 (fun h=>by show vU h.f+8≤vU h.f+vU h.s+2;unfold vU Dy HE Ck;omega) hb hok
theorem HV {x:aC}(hb:y3 x≤1048576)(hok:ij bq x.d2=true):(aQ 2 x.d2).length≤12000000:=By (by decide) (fun _ h=>cR h) KL.n2 (fun h=>by show vU h.s+8≤vU h.f+vU h.s+2;unfold vU Dy HE Ck;omega) hb hok
end Go.Proofs.YtkjabaihpkbfhaaGreat.Wk
