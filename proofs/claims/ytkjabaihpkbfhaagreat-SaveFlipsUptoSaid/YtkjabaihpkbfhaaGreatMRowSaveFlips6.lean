/- Texts of our own that a row leans on, put together. No condition of their own. -/
import Derived.Test.YtkjabaihpkbfhaaGreatMRowSaveFlips5
set_option linter.unusedVariables false
set_option linter.unusedSimpArgs false
set_option maxRecDepth 100000
set_option maxHeartbeats 2000000
namespace Go.Proofs.YtkjabaihpkbfhaaGreat.Wk
open Go Go.RowKit Go.Proofs.YtkjabaihpkbfhaaGreat Go.Proofs.YtkjabaihpkbfhaaGreat.K Go.Proofs.YtkjabaihpkbfhaaGreat.T
theorem Az (W:World)(d:aT)(q:Int)(ch:UInt8)(hp:d.ok W)(hs0:d.small)(hi1:iV aB d.d1=true→(bh 1 d.d1).length≤12000000)(hi2:iV bz d.d2=true→(bh 2 d.d2).length≤12000000):Calls Tryz.prog 7 #[.agg #[.int .i64 d.self,.int .i64 d.next,.slice d.a d.hs.length d.c],.int .i64 q,ai ch] W fun e w'=>e=.returned (.bool true)∧Sat W w' []:=by
 refine bP Tryz.func7 [0,1,2] ?_;have O:=Sat.start W;obtain⟨self,next,ka,kc,hs⟩:=d;intro a I;dsimp only at I ⊢;refine rC 2 I ?_;clear I a;refine uB rfl O ?_;clear O;intro b3 w O;refine uO 6 ?_;refine uF rfl (vi _) ?_;rintro e w ⟨rfl,hT⟩;replace O:Sat _ _ _:=O.ag hT;clear hT;refine ng 0 0 (aI rfl) ?_ ?_
 ·intro h16;intro a I;simp only[decide_eq_decide,decide_eq_true_eq,decide_eq_false_iff_not,Bool.not_eq_true',Bool.not_eq_false',bne_iff_ne,ne_eq,beq_iff_eq,Bool.not_eq_true,Bool.not_eq_false]at h16;contradiction
 ·intro h16;intro a I;simp only[decide_eq_decide,decide_eq_true_eq,decide_eq_false_iff_not,Bool.not_eq_true',Bool.not_eq_false',bne_iff_ne,ne_eq,beq_iff_eq,Bool.not_eq_true,Bool.not_eq_false]at h16;refine rO 12 I ?_;clear I a;intro a I;refine wp_loop_rounds 3 ?_;refine a8 ?_;refine rC 4 I ?_;clear I a;refine u1 5 (et (dU rfl rfl) (by omega)) ?_;intro a I;refine cZ (fun a w=>∃(q:Int),Ag a 155 [(1,.int .i64 q),(2,ai ch),(3,.pointer (some ⟨b3,0,none⟩)),(6,.bool false),(7,.int .i64 1)]∧Sat W w ([a6 b3 (.cells #[.int .i64 self,.int .i64 next,.slice ka hs.length kc] 24)])) ?_ ?_
  ·refine rC 4 I ?_;clear I a;refine u1 0 (lS (cs:=[_,_,_]) rfl) ?_;refine uF rfl (o8 _ (⟨self,next,ka,kc,hs⟩:aT) (hp.sat O) hs0) ?_;rintro e w (⟨hkT,A9,c9,rfl,hT⟩ | ⟨hkT,rfl,hT⟩)
   ·replace O:=O.au hT;clear hT;have hl9:=hi1 hkT;have h12:=uE 1 (aT.d1 (⟨self,next,ka,kc,hs⟩:aT));refine uO 1 ?_;refine u1 0 (an rfl rfl) ?_;refine u1 8 (an rfl rfl) ?_;refine u1 0 (lS (cs:=[_,_,_]) rfl) ?_;refine uF rfl (mj _ (⟨self,next,ka,kc,hs⟩:aT) (hp.sat O) hs0) ?_;rintro e w ⟨he,hT⟩;rw[hkT]at he;subst he
    ·replace O:Sat _ _ _:=O.ag hT;clear hT;refine u1 9 (aI rfl) ?_;refine u1 2 (dY (aG rfl rfl) (by omega)) ?_;refine u1 0 (ak rfl aW) ?_;refine aK 0 0 (aq rfl rfl) ?_ ?_
     ·intro h36;intro a I;exfalso;omega
     ·intro h36;refine uO 6 ?_;intro a I;refine cZ (fun a w=>∃(p:Nat),Ag a 155 [(1,.int .i64 ((p:Nat):Int)),(2,ai ch),(3,.pointer (some ⟨b3,0,none⟩)),(6,.bool false),(7,.int .i64 1),(8,.slice A9 ((bh 1 (aT.d1 (⟨self,next,ka,kc,hs⟩:aT)))).length c9)]∧Sat W w ([row 5 1 (.slice A9 ((bh 1 (aT.d1 (⟨self,next,ka,kc,hs⟩:aT)))).length c9) ((bh 1 (aT.d1 (⟨self,next,ka,kc,hs⟩:aT)))).length (((bh 1 (aT.d1 (⟨self,next,ka,kc,hs⟩:aT)))).map ai),a6 b3 (.cells #[.int .i64 self,.int .i64 next,.slice ka hs.length kc] 24)])∧(p<(bh 1 (aT.d1 (⟨self,next,ka,kc,hs⟩:aT))).length)) ?_ ?_
      ·refine rC 3 I ?_;clear I a;refine aK 0 0 (aq rfl rfl) ?_ ?_
       ·intro h39;refine uO 11 ?_;refine u1 0 (ak rfl aW) ?_;refine u1 2 (aH (gw rfl rfl (by omega) (by omega) (by omega)) (show _=Value.int .i64 (((bh 1 (aT.d1 (⟨self,next,ka,kc,hs⟩:aT))).length / 2:Nat):Int) from congrArg (Value.int .i64) (by omega))) ?_;intro a I;replace I:=I.kp [1,2,3,6,7,8] rfl;exact⟨(bh 1 (aT.d1 (⟨self,next,ka,kc,hs⟩:aT))).length / 2,I,O,by omega⟩
       ·intro h39;refine uO 3 ?_;refine u1 0 (ak rfl aW) ?_;refine aK 0 0 (dH rfl rfl) ?_ ?_
        ·intro h44;refine uO 6 ?_;refine u1 0 (ak rfl aW) ?_;refine u1 2 (aH (gw rfl rfl (by omega) (by omega) (by omega)) (show _=Value.int .i64 (((bh 1 (aT.d1 (⟨self,next,ka,kc,hs⟩:aT))).length / 2:Nat):Int) from congrArg (Value.int .i64) (by omega))) ?_;intro a I;replace I:=I.kp [1,2,3,6,7,8] rfl;exact⟨(bh 1 (aT.d1 (⟨self,next,ka,kc,hs⟩:aT))).length / 2,I,O,by omega⟩
        ·intro h44;refine uO 5 ?_;intro a I;replace I:=I.kp [1,2,3,6,7,8] rfl;rw[show q=((q.toNat:Nat):Int) from by omega]at I;exact⟨q.toNat,I,O,by omega⟩
      ·intro a w hI;clear O I;obtain⟨p,I,O,hp2⟩:=hI;refine rC 2 I ?_;clear I a;intro a I;refine zq I rfl aW j5 O ?_;clear I a O;intro A49 w O;refine uO 1 ?_;intro a I;refine dj I rfl rfl rfl aW j5 rfl O ((((O.p 1).rd).src aW (by simp[ai,Value.oneCell']))) (by omega) (by omega) ?_;clear I a O;intro A51 c51 w hc51 O;have e0:0+(bh 1 (aT.d1 (⟨self,next,ka,kc,hs⟩:aT))).length=(bh 1 (aT.d1 (⟨self,next,ka,kc,hs⟩:aT))).length:=Nat.zero_add _;intro a I;replace O:=fW (cs':=(bh 1 (aT.d1 (⟨self,next,ka,kc,hs⟩:aT))).map ai) O e0 (List.nil_append _);rw[e0]at I;clear e0;refine rO 8 I ?_;clear I a;obtain⟨A51_p,rfl⟩:∃q,A51=some q:=O.rd.ao (by omega);refine u1 0 (ix rfl rfl aW mJ) ?_;intro a I;refine Af (p * 1) I rfl rfl rfl o0 mJ rfl O (by simp only[List.length_map,List.length_set];omega) ?_;clear O;intro w O
       replace O:=fW (cs':=(((bh 1 (aT.d1 (⟨self,next,ka,kc,hs⟩:aT))).set p ch)).map ai) O (show _=(((bh 1 (aT.d1 (⟨self,next,ka,kc,hs⟩:aT))).set p ch)).length from by simp only[List.length_set]) (by simp only[Nat.mul_one,List.map_set]);refine rO 2 I ?_;clear I a;intro a I
       refine sC (fun a w=>∃(b11:Nat) (z:aT),Ag a 155 [(1,.int .i64 ((p:Nat):Int)),(2,ai ch),(3,.pointer (some ⟨b3,0,none⟩)),(6,.bool false),(7,.int .i64 1),(8,.slice A9 ((bh 1 (aT.d1 (⟨self,next,ka,kc,hs⟩:aT)))).length c9),(11,.pointer (some ⟨b11,0,none⟩))]∧Sat W w ([a6 b11 (.cells #[.int .i64 z.self,.int .i64 z.next,.slice z.a z.hs.length z.c] 24),row 5 1 (.slice A9 ((bh 1 (aT.d1 (⟨self,next,ka,kc,hs⟩:aT)))).length c9) ((bh 1 (aT.d1 (⟨self,next,ka,kc,hs⟩:aT)))).length (((bh 1 (aT.d1 (⟨self,next,ka,kc,hs⟩:aT)))).map ai),a6 b3 (.cells #[.int .i64 self,.int .i64 next,.slice ka hs.length kc] 24)])) ?_ ?_
       ·refine rC 3 I ?_;clear I a;obtain⟨xb0,hxb0⟩:∃z,(bh 1 (aT.d1 (⟨self,next,ka,kc,hs⟩:aT)))[p]?=some z:=⟨_,List.getElem?_eq_getElem hp2⟩;have hcall:=lT _ (some A51_p) c51 ((bh 1 (aT.d1 (⟨self,next,ka,kc,hs⟩:aT))).set p ch) (by simp only[List.length_set];omega) O.rd;intro a I;simp only[List.length_set]at hcall;refine vT I rfl Fx rfl (hcall) ?_;clear I a;rintro e w hq;rcases zm (k:=1) (f:=aB) (D:=aT.d1) (by decide) (fun d hd=>hd) hkT hxb0 (by omega) hq with ⟨hcx,⟨ks6,kn6,ka6,kc6,kh6⟩,hkd6,hsm6,hoz6,rfl,hT⟩ | ⟨hcx,⟨ks6,kn6,ka6,kc6,kh6⟩,hkd6,hnil6,rfl,hT⟩
        ·clear hcall;dsimp only at hT hoz6 ⊢;replace O:Sat _ _ (_::_::_):=O.ag hT;clear hT;have hcn:ch.toNat=xb0.toNat:=by rw[hcx]
         refine⟨_,rfl,?_⟩;refine uO 1 ?_;refine u1 0 (an rfl rfl) ?_;refine u1 0 (an rfl rfl) ?_;refine uN sN O ?_;clear O;intro b11 w O;refine uW (vs:=[_,_,_]) (cs':=[_,_,_]) rfl rfl lr O ?_;clear O;intro w O;refine uO 2 ?_;refine uC 5 ?_;obtain⟨A9_p,rfl⟩:∃q,A9=some q:=(O.p 4).rd.ao (by omega);obtain⟨xb,hxb⟩:∃zz_,(bh 1 (aT.d1 (⟨self,next,ka,kc,hs⟩:aT)))[p]?=some zz_:=⟨_,List.getElem?_eq_getElem (by omega)⟩;obtain rfl:xb=xb0:=by rw[hxb0]at hxb;exact (Option.some.inj hxb).symm
         refine u1 0 (ix rfl rfl aW mJ) ?_;refine u1 0 (aj rfl o0 (eO (O.p 4).rd (aV hxb))) ?_;refine aK 0 0 (aG rfl rfl) ?_ ?_
         ·intro h67;intro a I;exfalso;omega
         ·intro h67;refine uO 11 ?_;refine uC 5 ?_;refine u1 0 (ix rfl rfl aW mJ) ?_;refine u1 0 (aj rfl o0 (eO (O.p 4).rd (aV hxb))) ?_;refine aK 0 0 (aY rfl rfl) ?_ ?_
          ·intro h80;refine uO 2 ?_;refine aK 0 0 (aG rfl rfl) ?_ ?_
           ·intro h83;intro a I;contradiction
           ·intro h83;refine uO 2 ?_;refine u1 0 (lS (cs:=[_,_,_]) rfl) ?_;refine u1 0 (lS (cs:=[_,_,_]) rfl) ?_;refine jR rfl (j1 _ (⟨ks6,kn6,ka6,kc6,kh6⟩:aT) (⟨self,next,ka,kc,hs⟩:aT) ⟨(O.p 1).rd,fun h hh=>im (O.p 2) h.n1 (List.mem_map.2 ⟨h,hh,rfl⟩),fun h hh=>by rw[hoz6 h hh];exact ye _⟩ hsm6 (hp.sat O) hs0) ?_;rintro e w ⟨he,hT⟩;rw[decide_eq_true (show aT.d1 ⟨ks6,kn6,ka6,kc6,kh6⟩=aT.d1 (⟨self,next,ka,kc,hs⟩:aT) from hkd6)]at he;subst he
            ·replace O:Sat _ _ _:=O.ag hT;clear hT;refine u1 6 (aI rfl) ?_;intro a I;replace I:=I.kp [1,2,3,6,7,8,11] rfl
             first
              | exact⟨_,⟨ks6,kn6,ka6,kc6,kh6⟩,I,(pw (((O.p 5).p 5).p 2))⟩
          ·intro h80;intro a I;contradiction
        ·clear hcall;dsimp only at hT hnil6 ⊢;replace O:=O.au hT;clear hT;have hcn:¬ch.toNat=xb0.toNat:=fun h=>hcx (UInt8.toNat_inj.1 h)
         refine⟨_,rfl,?_⟩;refine uO 1 ?_;refine u1 0 (an rfl rfl) ?_;refine u1 0 (an rfl rfl) ?_;refine uN sN O ?_;clear O;intro b11 w O;refine uW (vs:=[_,_,_]) (cs':=[_,_,_]) rfl rfl lr O ?_;clear O;intro w O;refine uO 2 ?_;refine uC 5 ?_;obtain⟨A9_p,rfl⟩:∃q,A9=some q:=(O.p 3).rd.ao (by omega);obtain⟨xb,hxb⟩:∃zz_,(bh 1 (aT.d1 (⟨self,next,ka,kc,hs⟩:aT)))[p]?=some zz_:=⟨_,List.getElem?_eq_getElem (by omega)⟩;obtain rfl:xb=xb0:=by rw[hxb0]at hxb;exact (Option.some.inj hxb).symm
         refine u1 0 (ix rfl rfl aW mJ) ?_;refine u1 0 (aj rfl o0 (eO (O.p 3).rd (aV hxb))) ?_;refine aK 0 0 (aG rfl rfl) ?_ ?_
         ·intro h67;refine uO 2 ?_;refine u1 1 (lS (cs:=[_,_,_]) rfl) ?_;refine jR rfl (lG _ (⟨ks6,kn6,ka6,kc6,kh6⟩:aT) 8 (nR hnil6 (O.p 1)).1 (nR (t:=72) hnil6 (O.p 1)).2) ?_;rintro e w ⟨he,hT⟩;rw[decide_eq_true ⟨rfl,show aT.d1 ⟨ks6,kn6,ka6,kc6,kh6⟩=aT.d1 (⟨0,0,none,0,[]⟩:aT) from hkd6⟩]at he;subst he
          ·replace O:Sat _ _ _:=O.ag hT;clear hT;refine u1 5 (aI rfl) ?_;refine uC 5 ?_;refine u1 0 (ix rfl rfl aW mJ) ?_;refine u1 0 (aj rfl o0 (eO (O.p 3).rd (aV hxb))) ?_;refine aK 0 0 (aY rfl rfl) ?_ ?_
           ·intro h80;intro a I;contradiction
           ·intro h80;refine uO 15 ?_;intro a I;replace I:=I.kp [1,2,3,6,7,8,11] rfl
            first
             | exact⟨_,⟨ks6,kn6,ka6,kc6,kh6⟩,I,(pw (((O.p 4).p 4).p 2))⟩
         ·intro h67;intro a I;exfalso;omega
       ·intro a w hI;clear O I;obtain⟨b11,z,I,O⟩:=hI;refine rC 3 I ?_;clear I a;refine u1 0 (ak rfl aW) ?_;refine u1 5 (sb rfl rfl) ?_;intro a I;refine cD (fun w'=>Sat _ w' _) (by kernel_rfl) (by kernel_rfl) O.drew ?_;refine rQ 1 I ?_;clear I a;refine bc 1 (fun w O=>(ad rfl rfl)) ?_;refine bc 0 (fun w O=>(ak rfl aW)) ?_;intro a I;refine K.rn I rfl rfl rfl (fun w O=>(dH (I.ev rfl) (I.ev rfl))) ?_ ?_
        ·clear I a;intro h99;refine uQ 25 ?_;intro a I;refine wpQuiet_nil ?_;clear O;intro w O;refine rE 5 I ?_;clear I a;intro a I;replace I:=I.kp [1,2,3,6,7] rfl
         first
          | exact⟨_,I,(bY O)⟩
          | exact⟨_,I,(bY (O.p 1))⟩
          | exact⟨_,I,(bY (O.p 2))⟩
          | exact⟨_,I,(bY (O.p 3))⟩
          | exact⟨_,I,(bY (O.p 4))⟩
          | exact⟨_,I,(bY (O.p 5))⟩
          | exact⟨_,I,(bY (O.p 6))⟩
          | exact⟨_,I,(bY (O.p 7))⟩
          | exact⟨_,I,(bY (O.p 8))⟩
        ·clear I a;intro h99;refine uQ 2 ?_;refine bc 1 (fun w O=>(ad rfl rfl)) ?_;intro a I;refine K.lx I (aL I rfl rfl rfl) rfl rfl (fun w O=>(aY (I.ev rfl) (I.ev rfl))) ?_ ?_
         ·clear I a;intro h104;refine uQ 20 ?_;intro a I;refine wpQuiet_nil ?_;clear O;intro w O;refine rE 5 I ?_;clear I a;intro a I;replace I:=I.kp [1,2,3,6,7] rfl
          first
           | exact⟨_,I,(bY O)⟩
           | exact⟨_,I,(bY (O.p 1))⟩
           | exact⟨_,I,(bY (O.p 2))⟩
           | exact⟨_,I,(bY (O.p 3))⟩
           | exact⟨_,I,(bY (O.p 4))⟩
           | exact⟨_,I,(bY (O.p 5))⟩
           | exact⟨_,I,(bY (O.p 6))⟩
           | exact⟨_,I,(bY (O.p 7))⟩
           | exact⟨_,I,(bY (O.p 8))⟩
         ·clear I a;intro h104;refine uQ 3 ?_;refine bc 1 (fun w O=>(ad rfl rfl)) ?_;refine bc 0 (fun w O=>(ad rfl rfl)) ?_;intro a I;refine K.lx I (aL I rfl rfl rfl) rfl rfl (fun w O=>(aY (I.ev rfl) (I.ev rfl))) ?_ ?_
          ·clear I a;intro h111;refine uQ 13 ?_;intro a I;refine wpQuiet_nil ?_;clear O;intro w O;refine rE 5 I ?_;clear I a;intro a I;replace I:=I.kp [1,2,3,6,7] rfl
           first
            | exact⟨_,I,(bY O)⟩
            | exact⟨_,I,(bY (O.p 1))⟩
            | exact⟨_,I,(bY (O.p 2))⟩
            | exact⟨_,I,(bY (O.p 3))⟩
            | exact⟨_,I,(bY (O.p 4))⟩
            | exact⟨_,I,(bY (O.p 5))⟩
            | exact⟨_,I,(bY (O.p 6))⟩
            | exact⟨_,I,(bY (O.p 7))⟩
            | exact⟨_,I,(bY (O.p 8))⟩
          ·clear I a;intro h111;refine uQ 4 ?_;obtain⟨A9_p,rfl⟩:∃q,A9=some q:=(O.p 1).rd.ao (by omega);obtain⟨x3,hx3⟩:∃zz_,(bh 1 (aT.d1 (⟨self,next,ka,kc,hs⟩:aT)))[p]?=some zz_:=⟨_,List.getElem?_eq_getElem (by omega)⟩;refine bc 0 (fun w O=>(ix rfl rfl aW mJ)) ?_;refine bc 2 (fun w O=>(aj rfl o0 (eO (O.p 1).rd (aV hx3)))) ?_;refine bc 0 (fun w O=>(ad rfl rfl)) ?_;obtain⟨x2,hx2⟩:∃zz_,(bh 1 (aT.d1 (⟨self,next,ka,kc,hs⟩:aT)))[p+1]?=some zz_:=⟨_,List.getElem?_eq_getElem (by omega)⟩;refine bc 0 (fun w O=>(ix rfl rfl aW mJ)) ?_;refine bc 0 (fun w O=>(aj rfl o0 (eO (O.p 1).rd (aV hx2)))) ?_;intro a I;refine K.lx I (aL I rfl rfl rfl) rfl rfl (fun w O=>(aY (I.ev rfl) (I.ev rfl))) ?_ ?_
           ·clear I a;intro h123;refine uQ 1 ?_;intro a I;refine wpQuiet_nil ?_;clear O;intro w O;refine rE 5 I ?_;clear I a;intro a I;replace I:=I.kp [1,2,3,6,7] rfl
            first
             | exact⟨_,I,(bY O)⟩
             | exact⟨_,I,(bY (O.p 1))⟩
             | exact⟨_,I,(bY (O.p 2))⟩
             | exact⟨_,I,(bY (O.p 3))⟩
             | exact⟨_,I,(bY (O.p 4))⟩
             | exact⟨_,I,(bY (O.p 5))⟩
             | exact⟨_,I,(bY (O.p 6))⟩
             | exact⟨_,I,(bY (O.p 7))⟩
             | exact⟨_,I,(bY (O.p 8))⟩
           ·clear I a;intro h123;refine uQ 1 ?_;intro a I;refine wpQuiet_nil ?_;clear O;intro w O;refine rE 6 I ?_;clear I a;intro a I;refine zq I rfl aW j5 O ?_;clear I a O;intro A125 w O;refine uO 1 ?_;intro a I;refine dj I rfl rfl rfl aW j5 rfl O ((((O.p 2).rd).src aW (by simp[ai,Value.oneCell']))) (by omega) (by omega) ?_;clear I a O;intro A127 c127 w hc127 O;have e0:0+(bh 1 (aT.d1 (⟨self,next,ka,kc,hs⟩:aT))).length=(bh 1 (aT.d1 (⟨self,next,ka,kc,hs⟩:aT))).length:=Nat.zero_add _;intro a I;replace O:=fW (cs':=(bh 1 (aT.d1 (⟨self,next,ka,kc,hs⟩:aT))).map ai) O e0 (List.nil_append _);rw[e0]at I;clear e0;refine rO 9 I ?_;clear I a;refine u1 0 (ad rfl rfl) ?_;refine u1 0 (ix rfl rfl aW mJ) ?_;refine u1 0 (aj rfl o0 (eO (O.p 2).rd (aV hx2))) ?_;obtain⟨A127_p,rfl⟩:∃q,A127=some q:=O.rd.ao (by omega)
            refine u1 0 (ix rfl rfl aW mJ) ?_;intro a I;refine Af (p * 1) I rfl rfl rfl o0 mJ rfl O (by simp only[List.length_map,List.length_set];omega) ?_;clear O;intro w O;replace O:=fW (cs':=(((bh 1 (aT.d1 (⟨self,next,ka,kc,hs⟩:aT))).set p x2)).map ai) O (show _=(((bh 1 (aT.d1 (⟨self,next,ka,kc,hs⟩:aT))).set p x2)).length from by simp only[List.length_set]) (by simp only[Nat.mul_one,List.map_set]);refine rO 6 I ?_;clear I a;refine u1 2 (ad rfl rfl) ?_;refine u1 0 (ix rfl rfl aW mJ) ?_;refine u1 0 (aj rfl o0 (eO (O.p 2).rd (aV hx3))) ?_;refine u1 0 (ix rfl rfl aW mJ) ?_;intro a I;refine Af ((p+1) * 1) I rfl rfl rfl o0 mJ rfl O (by simp only[List.length_map,List.length_set];omega) ?_;clear O;intro w O
            replace O:=fW (cs':=((((bh 1 (aT.d1 (⟨self,next,ka,kc,hs⟩:aT))).set p x2).set (p+1) x3)).map ai) O (show _=((((bh 1 (aT.d1 (⟨self,next,ka,kc,hs⟩:aT))).set p x2).set (p+1) x3)).length from by simp only[List.length_set]) (by simp only[Nat.mul_one,List.map_set]);refine rO 6 I ?_;clear I a;have hcall:=lT _ (some A127_p) c127 (((bh 1 (aT.d1 (⟨self,next,ka,kc,hs⟩:aT))).set p x2).set (p+1) x3) (by simp only[List.length_set];omega) O.rd;intro a I;simp only[List.length_set]at hcall;refine vT I rfl Fx rfl (hcall) ?_;clear I a;rintro e w hq;obtain⟨⟨ks5,kn5,ka5,kc5,kh5⟩,hkd5,hnil5,rfl,hT⟩:=uZ (k:=1) (f:=aB) (D:=aT.d1) (tn hx3 hx2 h123 h104) hq;clear hq hcall;dsimp only at hT hnil5 ⊢;replace O:=O.au hT;clear hT;refine⟨_,rfl,?_⟩;refine uO 1 ?_;refine u1 0 (an rfl rfl) ?_;refine u1 0 (an rfl rfl) ?_;intro a I
            refine Ef I (vs:=[_,_,_]) rfl rfl lr (by simp[Value.oneCell']) (O.p 2) (by simp) ?_;clear O;intro w O;refine rO 6 I ?_;clear I a;refine u1 1 (lS (cs:=[_,_,_]) rfl) ?_;refine uF rfl (lG _ (⟨ks5,kn5,ka5,kc5,kh5⟩:aT) 8 (nR hnil5 (O.p 1)).1 (nR (t:=72) hnil5 (O.p 1)).2) ?_;rintro e w ⟨he,hT⟩;rw[decide_eq_true ⟨rfl,show aT.d1 ⟨ks5,kn5,ka5,kc5,kh5⟩=aT.d1 (⟨0,0,none,0,[]⟩:aT) from hkd5⟩]at he;subst he
            ·replace O:Sat _ _ _:=O.ag hT;clear hT;refine u1 5 (aI rfl) ?_;intro a I;replace I:=I.kp [1,2,3,6,7] rfl
             first
              | exact⟨_,I,(bY O)⟩
              | exact⟨_,I,(bY (O.p 1))⟩
              | exact⟨_,I,(bY (O.p 2))⟩
              | exact⟨_,I,(bY (O.p 3))⟩
              | exact⟨_,I,(bY (O.p 4))⟩
              | exact⟨_,I,(bY (O.p 5))⟩
              | exact⟨_,I,(bY (O.p 6))⟩
              | exact⟨_,I,(bY (O.p 7))⟩
              | exact⟨_,I,(bY (O.p 8))⟩
   ·replace O:Sat _ _ _:=O.ag hT;clear hT;refine uO 1 ?_;refine u1 0 (an rfl rfl) ?_;refine u1 8 (an rfl rfl) ?_;refine u1 0 (lS (cs:=[_,_,_]) rfl) ?_;refine uF rfl (mj _ (⟨self,next,ka,kc,hs⟩:aT) (hp.sat O) hs0) ?_;rintro e w ⟨he,hT⟩;rw[hkT]at he;subst he
    ·replace O:Sat _ _ _:=O.ag hT;clear hT;refine u1 6 (aI rfl) ?_;intro a I;replace I:=I.kp [1,2,3,6,7] rfl
     first
      | exact⟨_,I,(bY O)⟩
      | exact⟨_,I,(bY (O.p 1))⟩
      | exact⟨_,I,(bY (O.p 2))⟩
      | exact⟨_,I,(bY (O.p 3))⟩
      | exact⟨_,I,(bY (O.p 4))⟩
      | exact⟨_,I,(bY (O.p 5))⟩
      | exact⟨_,I,(bY (O.p 6))⟩
      | exact⟨_,I,(bY (O.p 7))⟩
      | exact⟨_,I,(bY (O.p 8))⟩
  ·intro a w hI;clear O I;obtain⟨q,I,O⟩:=hI;refine rC 2 I ?_;clear I a;refine u1 2 (aH (ad rfl rfl) (show _=Value.int .i64 2 from rfl)) ?_;intro a I;refine a8 ?_;refine rC 4 I ?_;clear I a;refine u1 5 (et (dU rfl rfl) (by omega)) ?_;intro a I;refine cZ (fun a w=>∃(q:Int),Ag a 155 [(1,.int .i64 q),(2,ai ch),(3,.pointer (some ⟨b3,0,none⟩)),(6,.bool false),(7,.int .i64 2)]∧Sat W w ([a6 b3 (.cells #[.int .i64 self,.int .i64 next,.slice ka hs.length kc] 24)])) ?_ ?_
   ·refine rC 4 I ?_;clear I a;refine u1 0 (lS (cs:=[_,_,_]) rfl) ?_;refine uF rfl (pa _ (⟨self,next,ka,kc,hs⟩:aT) (hp.sat O) hs0) ?_;rintro e w (⟨hkS,A9,c9,rfl,hT⟩ | ⟨hkS,rfl,hT⟩)
    ·replace O:=O.au hT;clear hT;have hl9:=hi2 hkS;have h12:=uE 2 (aT.d2 (⟨self,next,ka,kc,hs⟩:aT));refine uO 1 ?_;refine u1 0 (an rfl rfl) ?_;refine u1 8 (an rfl rfl) ?_;refine u1 0 (lS (cs:=[_,_,_]) rfl) ?_;refine uF rfl (mx _ (⟨self,next,ka,kc,hs⟩:aT) (hp.sat O) hs0) ?_;rintro e w ⟨he,hT⟩;rw[hkS]at he;subst he
     ·replace O:Sat _ _ _:=O.ag hT;clear hT;refine u1 9 (aI rfl) ?_;refine u1 2 (dY (aG rfl rfl) (by omega)) ?_;refine u1 0 (ak rfl aW) ?_;refine aK 0 0 (aq rfl rfl) ?_ ?_
      ·intro h36;intro a I;exfalso;omega
      ·intro h36;refine uO 6 ?_;intro a I;refine cZ (fun a w=>∃(p:Nat),Ag a 155 [(1,.int .i64 ((p:Nat):Int)),(2,ai ch),(3,.pointer (some ⟨b3,0,none⟩)),(6,.bool false),(7,.int .i64 2),(8,.slice A9 ((bh 2 (aT.d2 (⟨self,next,ka,kc,hs⟩:aT)))).length c9)]∧Sat W w ([row 5 1 (.slice A9 ((bh 2 (aT.d2 (⟨self,next,ka,kc,hs⟩:aT)))).length c9) ((bh 2 (aT.d2 (⟨self,next,ka,kc,hs⟩:aT)))).length (((bh 2 (aT.d2 (⟨self,next,ka,kc,hs⟩:aT)))).map ai),a6 b3 (.cells #[.int .i64 self,.int .i64 next,.slice ka hs.length kc] 24)])∧(p<(bh 2 (aT.d2 (⟨self,next,ka,kc,hs⟩:aT))).length)) ?_ ?_
       ·refine rC 3 I ?_;clear I a;refine aK 0 0 (aq rfl rfl) ?_ ?_
        ·intro h39;refine uO 11 ?_;refine u1 0 (ak rfl aW) ?_;refine u1 2 (aH (gw rfl rfl (by omega) (by omega) (by omega)) (show _=Value.int .i64 (((bh 2 (aT.d2 (⟨self,next,ka,kc,hs⟩:aT))).length / 2:Nat):Int) from congrArg (Value.int .i64) (by omega))) ?_;intro a I;replace I:=I.kp [1,2,3,6,7,8] rfl;exact⟨(bh 2 (aT.d2 (⟨self,next,ka,kc,hs⟩:aT))).length / 2,I,O,by omega⟩
        ·intro h39;refine uO 3 ?_;refine u1 0 (ak rfl aW) ?_;refine aK 0 0 (dH rfl rfl) ?_ ?_
         ·intro h44;refine uO 6 ?_;refine u1 0 (ak rfl aW) ?_;refine u1 2 (aH (gw rfl rfl (by omega) (by omega) (by omega)) (show _=Value.int .i64 (((bh 2 (aT.d2 (⟨self,next,ka,kc,hs⟩:aT))).length / 2:Nat):Int) from congrArg (Value.int .i64) (by omega))) ?_;intro a I;replace I:=I.kp [1,2,3,6,7,8] rfl;exact⟨(bh 2 (aT.d2 (⟨self,next,ka,kc,hs⟩:aT))).length / 2,I,O,by omega⟩
         ·intro h44;refine uO 5 ?_;intro a I;replace I:=I.kp [1,2,3,6,7,8] rfl;rw[show q=((q.toNat:Nat):Int) from by omega]at I;exact⟨q.toNat,I,O,by omega⟩
       ·intro a w hI;clear O I;obtain⟨p,I,O,hp2⟩:=hI;refine rC 2 I ?_;clear I a;intro a I;refine zq I rfl aW j5 O ?_;clear I a O;intro A49 w O;refine uO 1 ?_;intro a I;refine dj I rfl rfl rfl aW j5 rfl O ((((O.p 1).rd).src aW (by simp[ai,Value.oneCell']))) (by omega) (by omega) ?_;clear I a O;intro A51 c51 w hc51 O;have e0:0+(bh 2 (aT.d2 (⟨self,next,ka,kc,hs⟩:aT))).length=(bh 2 (aT.d2 (⟨self,next,ka,kc,hs⟩:aT))).length:=Nat.zero_add _;intro a I;replace O:=fW (cs':=(bh 2 (aT.d2 (⟨self,next,ka,kc,hs⟩:aT))).map ai) O e0 (List.nil_append _);rw[e0]at I;clear e0;refine rO 8 I ?_;clear I a;obtain⟨A51_p,rfl⟩:∃q,A51=some q:=O.rd.ao (by omega);refine u1 0 (ix rfl rfl aW mJ) ?_;intro a I;refine Af (p * 1) I rfl rfl rfl o0 mJ rfl O (by simp only[List.length_map,List.length_set];omega) ?_;clear O;intro w O
        replace O:=fW (cs':=(((bh 2 (aT.d2 (⟨self,next,ka,kc,hs⟩:aT))).set p ch)).map ai) O (show _=(((bh 2 (aT.d2 (⟨self,next,ka,kc,hs⟩:aT))).set p ch)).length from by simp only[List.length_set]) (by simp only[Nat.mul_one,List.map_set]);refine rO 2 I ?_;clear I a;intro a I
        refine sC (fun a w=>∃(b11:Nat) (z:aT),Ag a 155 [(1,.int .i64 ((p:Nat):Int)),(2,ai ch),(3,.pointer (some ⟨b3,0,none⟩)),(6,.bool false),(7,.int .i64 2),(8,.slice A9 ((bh 2 (aT.d2 (⟨self,next,ka,kc,hs⟩:aT)))).length c9),(11,.pointer (some ⟨b11,0,none⟩))]∧Sat W w ([a6 b11 (.cells #[.int .i64 z.self,.int .i64 z.next,.slice z.a z.hs.length z.c] 24),row 5 1 (.slice A9 ((bh 2 (aT.d2 (⟨self,next,ka,kc,hs⟩:aT)))).length c9) ((bh 2 (aT.d2 (⟨self,next,ka,kc,hs⟩:aT)))).length (((bh 2 (aT.d2 (⟨self,next,ka,kc,hs⟩:aT)))).map ai),a6 b3 (.cells #[.int .i64 self,.int .i64 next,.slice ka hs.length kc] 24)])) ?_ ?_
        ·refine rC 3 I ?_;clear I a;obtain⟨xb0,hxb0⟩:∃z,(bh 2 (aT.d2 (⟨self,next,ka,kc,hs⟩:aT)))[p]?=some z:=⟨_,List.getElem?_eq_getElem hp2⟩;have hcall:=l6 _ (some A51_p) c51 ((bh 2 (aT.d2 (⟨self,next,ka,kc,hs⟩:aT))).set p ch) (by simp only[List.length_set];omega) O.rd;intro a I;simp only[List.length_set]at hcall;refine vT I rfl Fx rfl (hcall) ?_;clear I a;rintro e w hq;rcases zm (k:=2) (f:=bz) (D:=aT.d2) (by decide) (fun d hd=>dZ hd) hkS hxb0 (by omega) hq with ⟨hcx,⟨ks6,kn6,ka6,kc6,kh6⟩,hkd6,hsm6,hoz6,rfl,hT⟩ | ⟨hcx,⟨ks6,kn6,ka6,kc6,kh6⟩,hkd6,hnil6,rfl,hT⟩
         ·clear hcall;dsimp only at hT hoz6 ⊢;replace O:Sat _ _ (_::_::_):=O.ag hT;clear hT;have hcn:ch.toNat=xb0.toNat:=by rw[hcx]
          refine⟨_,rfl,?_⟩;refine uO 1 ?_;refine u1 0 (an rfl rfl) ?_;refine u1 0 (an rfl rfl) ?_;refine uN sN O ?_;clear O;intro b11 w O;refine uW (vs:=[_,_,_]) (cs':=[_,_,_]) rfl rfl lr O ?_;clear O;intro w O;refine uO 2 ?_;refine uC 5 ?_;obtain⟨A9_p,rfl⟩:∃q,A9=some q:=(O.p 4).rd.ao (by omega);obtain⟨xb,hxb⟩:∃zz_,(bh 2 (aT.d2 (⟨self,next,ka,kc,hs⟩:aT)))[p]?=some zz_:=⟨_,List.getElem?_eq_getElem (by omega)⟩;obtain rfl:xb=xb0:=by rw[hxb0]at hxb;exact (Option.some.inj hxb).symm
          refine u1 0 (ix rfl rfl aW mJ) ?_;refine u1 0 (aj rfl o0 (eO (O.p 4).rd (aV hxb))) ?_;refine aK 0 0 (aG rfl rfl) ?_ ?_
          ·intro h67;intro a I;exfalso;omega
          ·intro h67;refine uO 11 ?_;refine uC 5 ?_;refine u1 0 (ix rfl rfl aW mJ) ?_;refine u1 0 (aj rfl o0 (eO (O.p 4).rd (aV hxb))) ?_;refine aK 0 0 (aY rfl rfl) ?_ ?_
           ·intro h80;refine uO 2 ?_;refine aK 0 0 (aG rfl rfl) ?_ ?_
            ·intro h83;intro a I;contradiction
            ·intro h83;refine uO 2 ?_;refine u1 0 (lS (cs:=[_,_,_]) rfl) ?_;refine u1 0 (lS (cs:=[_,_,_]) rfl) ?_;refine jR rfl (j4 _ (⟨ks6,kn6,ka6,kc6,kh6⟩:aT) (⟨self,next,ka,kc,hs⟩:aT) ⟨(O.p 1).rd,fun h hh=>(by rw[hoz6 h hh];exact ye _),fun h hh=>im (O.p 2) h.n2 (List.mem_map.2 ⟨h,hh,rfl⟩)⟩ hsm6 (hp.sat O) hs0) ?_;rintro e w ⟨he,hT⟩;rw[decide_eq_true (show aT.d2 ⟨ks6,kn6,ka6,kc6,kh6⟩=aT.d2 (⟨self,next,ka,kc,hs⟩:aT) from hkd6)]at he;subst he
             ·replace O:Sat _ _ _:=O.ag hT;clear hT;refine u1 6 (aI rfl) ?_;intro a I;replace I:=I.kp [1,2,3,6,7,8,11] rfl
              first
               | exact⟨_,⟨ks6,kn6,ka6,kc6,kh6⟩,I,(pw (((O.p 5).p 5).p 2))⟩
           ·intro h80;intro a I;contradiction
         ·clear hcall;dsimp only at hT hnil6 ⊢;replace O:=O.au hT;clear hT;have hcn:¬ch.toNat=xb0.toNat:=fun h=>hcx (UInt8.toNat_inj.1 h)
          refine⟨_,rfl,?_⟩;refine uO 1 ?_;refine u1 0 (an rfl rfl) ?_;refine u1 0 (an rfl rfl) ?_;refine uN sN O ?_;clear O;intro b11 w O;refine uW (vs:=[_,_,_]) (cs':=[_,_,_]) rfl rfl lr O ?_;clear O;intro w O;refine uO 2 ?_;refine uC 5 ?_;obtain⟨A9_p,rfl⟩:∃q,A9=some q:=(O.p 3).rd.ao (by omega);obtain⟨xb,hxb⟩:∃zz_,(bh 2 (aT.d2 (⟨self,next,ka,kc,hs⟩:aT)))[p]?=some zz_:=⟨_,List.getElem?_eq_getElem (by omega)⟩;obtain rfl:xb=xb0:=by rw[hxb0]at hxb;exact (Option.some.inj hxb).symm
          refine u1 0 (ix rfl rfl aW mJ) ?_;refine u1 0 (aj rfl o0 (eO (O.p 3).rd (aV hxb))) ?_;refine aK 0 0 (aG rfl rfl) ?_ ?_
          ·intro h67;refine uO 2 ?_;refine u1 1 (lS (cs:=[_,_,_]) rfl) ?_;refine jR rfl (lD _ (⟨ks6,kn6,ka6,kc6,kh6⟩:aT) 8 (nR hnil6 (O.p 1)).1 (nR (t:=72) hnil6 (O.p 1)).2) ?_;rintro e w ⟨he,hT⟩;rw[decide_eq_true ⟨rfl,show aT.d2 ⟨ks6,kn6,ka6,kc6,kh6⟩=aT.d2 (⟨0,0,none,0,[]⟩:aT) from hkd6⟩]at he;subst he
           ·replace O:Sat _ _ _:=O.ag hT;clear hT;refine u1 5 (aI rfl) ?_;refine uC 5 ?_;refine u1 0 (ix rfl rfl aW mJ) ?_;refine u1 0 (aj rfl o0 (eO (O.p 3).rd (aV hxb))) ?_;refine aK 0 0 (aY rfl rfl) ?_ ?_
            ·intro h80;intro a I;contradiction
            ·intro h80;refine uO 15 ?_;intro a I;replace I:=I.kp [1,2,3,6,7,8,11] rfl
             first
              | exact⟨_,⟨ks6,kn6,ka6,kc6,kh6⟩,I,(pw (((O.p 4).p 4).p 2))⟩
          ·intro h67;intro a I;exfalso;omega
        ·intro a w hI;clear O I;obtain⟨b11,z,I,O⟩:=hI;refine rC 3 I ?_;clear I a;refine u1 0 (ak rfl aW) ?_;refine u1 5 (sb rfl rfl) ?_;intro a I;refine cD (fun w'=>Sat _ w' _) (by kernel_rfl) (by kernel_rfl) O.drew ?_;refine rQ 1 I ?_;clear I a;refine bc 1 (fun w O=>(ad rfl rfl)) ?_;refine bc 0 (fun w O=>(ak rfl aW)) ?_;intro a I;refine K.rn I rfl rfl rfl (fun w O=>(dH (I.ev rfl) (I.ev rfl))) ?_ ?_
         ·clear I a;intro h99;refine uQ 25 ?_;intro a I;refine wpQuiet_nil ?_;clear O;intro w O;refine rE 5 I ?_;clear I a;intro a I;replace I:=I.kp [1,2,3,6,7] rfl
          first
           | exact⟨_,I,(bY O)⟩
           | exact⟨_,I,(bY (O.p 1))⟩
           | exact⟨_,I,(bY (O.p 2))⟩
           | exact⟨_,I,(bY (O.p 3))⟩
           | exact⟨_,I,(bY (O.p 4))⟩
           | exact⟨_,I,(bY (O.p 5))⟩
           | exact⟨_,I,(bY (O.p 6))⟩
           | exact⟨_,I,(bY (O.p 7))⟩
           | exact⟨_,I,(bY (O.p 8))⟩
         ·clear I a;intro h99;refine uQ 2 ?_;refine bc 1 (fun w O=>(ad rfl rfl)) ?_;intro a I;refine K.lx I (aL I rfl rfl rfl) rfl rfl (fun w O=>(aY (I.ev rfl) (I.ev rfl))) ?_ ?_
          ·clear I a;intro h104;refine uQ 20 ?_;intro a I;refine wpQuiet_nil ?_;clear O;intro w O;refine rE 5 I ?_;clear I a;intro a I;replace I:=I.kp [1,2,3,6,7] rfl
           first
            | exact⟨_,I,(bY O)⟩
            | exact⟨_,I,(bY (O.p 1))⟩
            | exact⟨_,I,(bY (O.p 2))⟩
            | exact⟨_,I,(bY (O.p 3))⟩
            | exact⟨_,I,(bY (O.p 4))⟩
            | exact⟨_,I,(bY (O.p 5))⟩
            | exact⟨_,I,(bY (O.p 6))⟩
            | exact⟨_,I,(bY (O.p 7))⟩
            | exact⟨_,I,(bY (O.p 8))⟩
          ·clear I a;intro h104;refine uQ 3 ?_;refine bc 1 (fun w O=>(ad rfl rfl)) ?_;refine bc 0 (fun w O=>(ad rfl rfl)) ?_;intro a I;refine K.lx I (aL I rfl rfl rfl) rfl rfl (fun w O=>(aY (I.ev rfl) (I.ev rfl))) ?_ ?_
           ·clear I a;intro h111;refine uQ 13 ?_;intro a I;refine wpQuiet_nil ?_;clear O;intro w O;refine rE 5 I ?_;clear I a;intro a I;replace I:=I.kp [1,2,3,6,7] rfl
            first
             | exact⟨_,I,(bY O)⟩
             | exact⟨_,I,(bY (O.p 1))⟩
             | exact⟨_,I,(bY (O.p 2))⟩
             | exact⟨_,I,(bY (O.p 3))⟩
             | exact⟨_,I,(bY (O.p 4))⟩
             | exact⟨_,I,(bY (O.p 5))⟩
             | exact⟨_,I,(bY (O.p 6))⟩
             | exact⟨_,I,(bY (O.p 7))⟩
             | exact⟨_,I,(bY (O.p 8))⟩
           ·clear I a;intro h111;refine uQ 4 ?_;obtain⟨A9_p,rfl⟩:∃q,A9=some q:=(O.p 1).rd.ao (by omega);obtain⟨x3,hx3⟩:∃zz_,(bh 2 (aT.d2 (⟨self,next,ka,kc,hs⟩:aT)))[p]?=some zz_:=⟨_,List.getElem?_eq_getElem (by omega)⟩;refine bc 0 (fun w O=>(ix rfl rfl aW mJ)) ?_;refine bc 2 (fun w O=>(aj rfl o0 (eO (O.p 1).rd (aV hx3)))) ?_;refine bc 0 (fun w O=>(ad rfl rfl)) ?_;obtain⟨x2,hx2⟩:∃zz_,(bh 2 (aT.d2 (⟨self,next,ka,kc,hs⟩:aT)))[p+1]?=some zz_:=⟨_,List.getElem?_eq_getElem (by omega)⟩;refine bc 0 (fun w O=>(ix rfl rfl aW mJ)) ?_;refine bc 0 (fun w O=>(aj rfl o0 (eO (O.p 1).rd (aV hx2)))) ?_;intro a I;refine K.lx I (aL I rfl rfl rfl) rfl rfl (fun w O=>(aY (I.ev rfl) (I.ev rfl))) ?_ ?_
            ·clear I a;intro h123;refine uQ 1 ?_;intro a I;refine wpQuiet_nil ?_;clear O;intro w O;refine rE 5 I ?_;clear I a;intro a I;replace I:=I.kp [1,2,3,6,7] rfl
             first
              | exact⟨_,I,(bY O)⟩
              | exact⟨_,I,(bY (O.p 1))⟩
              | exact⟨_,I,(bY (O.p 2))⟩
              | exact⟨_,I,(bY (O.p 3))⟩
              | exact⟨_,I,(bY (O.p 4))⟩
              | exact⟨_,I,(bY (O.p 5))⟩
              | exact⟨_,I,(bY (O.p 6))⟩
              | exact⟨_,I,(bY (O.p 7))⟩
              | exact⟨_,I,(bY (O.p 8))⟩
            ·clear I a;intro h123;refine uQ 1 ?_;intro a I;refine wpQuiet_nil ?_;clear O;intro w O;refine rE 6 I ?_;clear I a;intro a I;refine zq I rfl aW j5 O ?_;clear I a O;intro A125 w O;refine uO 1 ?_;intro a I;refine dj I rfl rfl rfl aW j5 rfl O ((((O.p 2).rd).src aW (by simp[ai,Value.oneCell']))) (by omega) (by omega) ?_;clear I a O;intro A127 c127 w hc127 O;have e0:0+(bh 2 (aT.d2 (⟨self,next,ka,kc,hs⟩:aT))).length=(bh 2 (aT.d2 (⟨self,next,ka,kc,hs⟩:aT))).length:=Nat.zero_add _;intro a I;replace O:=fW (cs':=(bh 2 (aT.d2 (⟨self,next,ka,kc,hs⟩:aT))).map ai) O e0 (List.nil_append _);rw[e0]at I;clear e0;refine rO 9 I ?_;clear I a;refine u1 0 (ad rfl rfl) ?_;refine u1 0 (ix rfl rfl aW mJ) ?_;refine u1 0 (aj rfl o0 (eO (O.p 2).rd (aV hx2))) ?_;obtain⟨A127_p,rfl⟩:∃q,A127=some q:=O.rd.ao (by omega)
             refine u1 0 (ix rfl rfl aW mJ) ?_;intro a I;refine Af (p * 1) I rfl rfl rfl o0 mJ rfl O (by simp only[List.length_map,List.length_set];omega) ?_;clear O;intro w O;replace O:=fW (cs':=(((bh 2 (aT.d2 (⟨self,next,ka,kc,hs⟩:aT))).set p x2)).map ai) O (show _=(((bh 2 (aT.d2 (⟨self,next,ka,kc,hs⟩:aT))).set p x2)).length from by simp only[List.length_set]) (by simp only[Nat.mul_one,List.map_set]);refine rO 6 I ?_;clear I a;refine u1 2 (ad rfl rfl) ?_;refine u1 0 (ix rfl rfl aW mJ) ?_;refine u1 0 (aj rfl o0 (eO (O.p 2).rd (aV hx3))) ?_;refine u1 0 (ix rfl rfl aW mJ) ?_;intro a I;refine Af ((p+1) * 1) I rfl rfl rfl o0 mJ rfl O (by simp only[List.length_map,List.length_set];omega) ?_;clear O;intro w O
             replace O:=fW (cs':=((((bh 2 (aT.d2 (⟨self,next,ka,kc,hs⟩:aT))).set p x2).set (p+1) x3)).map ai) O (show _=((((bh 2 (aT.d2 (⟨self,next,ka,kc,hs⟩:aT))).set p x2).set (p+1) x3)).length from by simp only[List.length_set]) (by simp only[Nat.mul_one,List.map_set]);refine rO 6 I ?_;clear I a;have hcall:=l6 _ (some A127_p) c127 (((bh 2 (aT.d2 (⟨self,next,ka,kc,hs⟩:aT))).set p x2).set (p+1) x3) (by simp only[List.length_set];omega) O.rd;intro a I;simp only[List.length_set]at hcall;refine vT I rfl Fx rfl (hcall) ?_;clear I a;rintro e w hq;obtain⟨⟨ks5,kn5,ka5,kc5,kh5⟩,hkd5,hnil5,rfl,hT⟩:=uZ (k:=2) (f:=bz) (D:=aT.d2) (tn hx3 hx2 h123 h104) hq;clear hq hcall;dsimp only at hT hnil5 ⊢;replace O:=O.au hT;clear hT;refine⟨_,rfl,?_⟩;refine uO 1 ?_;refine u1 0 (an rfl rfl) ?_;refine u1 0 (an rfl rfl) ?_;intro a I
             refine Ef I (vs:=[_,_,_]) rfl rfl lr (by simp[Value.oneCell']) (O.p 2) (by simp) ?_;clear O;intro w O;refine rO 6 I ?_;clear I a;refine u1 1 (lS (cs:=[_,_,_]) rfl) ?_;refine uF rfl (lD _ (⟨ks5,kn5,ka5,kc5,kh5⟩:aT) 8 (nR hnil5 (O.p 1)).1 (nR (t:=72) hnil5 (O.p 1)).2) ?_;rintro e w ⟨he,hT⟩;rw[decide_eq_true ⟨rfl,show aT.d2 ⟨ks5,kn5,ka5,kc5,kh5⟩=aT.d2 (⟨0,0,none,0,[]⟩:aT) from hkd5⟩]at he;subst he
             ·replace O:Sat _ _ _:=O.ag hT;clear hT;refine u1 5 (aI rfl) ?_;intro a I;replace I:=I.kp [1,2,3,6,7] rfl
              first
               | exact⟨_,I,(bY O)⟩
               | exact⟨_,I,(bY (O.p 1))⟩
               | exact⟨_,I,(bY (O.p 2))⟩
               | exact⟨_,I,(bY (O.p 3))⟩
               | exact⟨_,I,(bY (O.p 4))⟩
               | exact⟨_,I,(bY (O.p 5))⟩
               | exact⟨_,I,(bY (O.p 6))⟩
               | exact⟨_,I,(bY (O.p 7))⟩
               | exact⟨_,I,(bY (O.p 8))⟩
    ·replace O:Sat _ _ _:=O.ag hT;clear hT;refine uO 1 ?_;refine u1 0 (an rfl rfl) ?_;refine u1 8 (an rfl rfl) ?_;refine u1 0 (lS (cs:=[_,_,_]) rfl) ?_;refine uF rfl (mx _ (⟨self,next,ka,kc,hs⟩:aT) (hp.sat O) hs0) ?_;rintro e w ⟨he,hT⟩;rw[hkS]at he;subst he
     ·replace O:Sat _ _ _:=O.ag hT;clear hT;refine u1 6 (aI rfl) ?_;intro a I;replace I:=I.kp [1,2,3,6,7] rfl
      first
       | exact⟨_,I,(bY O)⟩
       | exact⟨_,I,(bY (O.p 1))⟩
       | exact⟨_,I,(bY (O.p 2))⟩
       | exact⟨_,I,(bY (O.p 3))⟩
       | exact⟨_,I,(bY (O.p 4))⟩
       | exact⟨_,I,(bY (O.p 5))⟩
       | exact⟨_,I,(bY (O.p 6))⟩
       | exact⟨_,I,(bY (O.p 7))⟩
       | exact⟨_,I,(bY (O.p 8))⟩
   ·intro a w hI;clear O I;obtain⟨q,I,O⟩:=hI;refine rC 2 I ?_;clear I a;refine u1 2 (aH (ad rfl rfl) (show _=Value.int .i64 3 from rfl)) ?_;intro a I;refine a8 ?_;refine rC 4 I ?_;clear I a;refine u1 8 (dY (dU rfl rfl) (by omega)) ?_;intro a I;replace I:=I.kp [6] rfl;refine rC 6 I ?_;clear I a;refine aS ?_;exact⟨rfl,O.nil⟩
end Go.Proofs.YtkjabaihpkbfhaaGreat.Wk
namespace Go.Proofs.YtkjabaihpkbfhaaGreat.K
open Go Go.RowKit
theorem F1 {α:Type}{css:List (List Value)}{zs:List α}(enc:α→List Value)(hl:css.length=zs.length)(h:∀(i:Nat) (x:List Value) (a:α),css[i]?=some x→zs[i]?=some a→x=enc a):css=zs.map enc:=by
 refine List.ext_getElem? fun i=>?_;rw[List.getElem?_map];cases ho:zs[i]? with
 | none=>simp at ho;simp;omega
 | some o =>
   have hil:=(List.getElem?_eq_some_iff.1 ho).1;have hx:=List.getElem?_eq_getElem (show i<css.length by omega);rw[hx,h i _ o hx ho];rfl
theorem HD {α:Type}{css:List (List Value)}{zs:List α}{p:α→Prop}(hl:css.length=zs.length)(h:∀(i:Nat) (x:List Value) (a:α),css[i]?=some x→zs[i]?=some a→p a):∀a∈zs,p a:=fun o ho=>by
 obtain⟨i,hi⟩:=List.mem_iff_getElem?.1 ho;have hil:i<zs.length:=(List.getElem?_eq_some_iff.1 hi).1;exact h i _ o (List.getElem?_eq_getElem (show i<css.length by omega)) hi
theorem An {α:Type}{f:α→Nat}(hf:∀x,1≤f x):∀l:List α,l.length≤(l.map f).sum
 | []=>Nat.le_refl _
 | x :: l => by
   have:=An hf l;have:=hf x;simp only[List.map_cons,List.sum_cons,List.length_cons];omega
theorem J0 {x:Int}(h:(Lit.int .u8 x).wf=true):0≤x∧x≤255:=by
 simp[Lit.wf,IntKind.min,IntKind.max,IntKind.signed,IntKind.bits]at h;omega
theorem lC.list {P:Program}{W:World}{t e sz by_:Nat}{α:Type}{ru:α→List Value}{R:α→Prop}{wb:α→Prop}{bk:α→Nat}(ht:P.underlying t=some (.slice e))(hs:P.cellsOf t=1)(hb:P.bytesOf e=by_)(h:lC P W e sz (fun cs a=>cs=ru a∧R a) wb bk) :
 lC P W t 1 (fun cs (az:List α)=>∃A c,cs=[.slice A az.length c]∧Rd W sz (.slice A az.length c) az.length (az.flatMap ru)∧∀a∈az,R a) (fun az=>az.length * by_≤reachBytes∧∀a∈az,wb a) (fun az=>(az.map bk).sum+1):=by
 have h:=lC.slice ht hs hb h;refine⟨h.size,fun enc B hB fuel cs d p e=>?_⟩;obtain⟨xs,⟨A,c,css,h5,hc,hR,hcl,_,hrel⟩,hw,hbk⟩:=h.open_ enc B hB fuel cs d p e;have hcs:=F1 ru hcl fun i x a h1 h2=>(hrel i x a h1 h2).1
 rw[hcs,←List.flatMap_def]at hR;exact⟨xs,⟨A,c,h5,hR,HD hcl fun i x a h1 h2=>(hrel i x a h1 h2).2⟩,hw,hbk⟩
end Go.Proofs.YtkjabaihpkbfhaaGreat.K
namespace Go.Proofs.YtkjabaihpkbfhaaGreat.Wk
open Go Go.RowKit Go.Proofs.YtkjabaihpkbfhaaGreat Go.Proofs.YtkjabaihpkbfhaaGreat.K Go.Proofs.YtkjabaihpkbfhaaGreat.T
section
variable (W:World)
theorem vJ:lC Tryz.prog W 3 1 (fun cs (a:Int)=>cs=[.int .i64 a]∧(Lit.int .i64 a).wf=true) (fun _=>True) (fun _=>1):=lC.int (by kernel_rfl) (by kernel_rfl)
theorem F9:lC Tryz.prog W 3 1 (fun cs (a:Int)=>cs=[iv a]∧True) (fun _=>True) (fun _=>1):=by
 have h:=vJ W;refine⟨h.size,fun enc B hB fuel cs d p e=>?_⟩;obtain⟨a,⟨h1,_⟩,h2,h3⟩:=h.open_ enc B hB fuel cs d p e;exact⟨a,⟨h1,trivial⟩,h2,h3⟩
theorem Jd:lC Tryz.prog W 9 1 (fun cs (a:ByteArray)=>cs=[.string a]∧a.size≤maxLen) (fun a=>a.size≤reachBytes) (fun a=>a.size+1):=lC.str (by kernel_rfl) (by kernel_rfl)
theorem F6:lC Tryz.prog W 219 3 (fun cs (o:aN)=>cs=gm o∧True) (fun _=>True) (fun _=>4):=by
 have h:=lC.struct (P:=Tryz.prog) (W:=W) (t:=219) (sz:=3) (fl:=[(3,0),(3,1),(3,2)]) (by kernel_rfl) (by kernel_rfl) (gi.cons (vJ W) (gi.cons (vJ W) (gi.cons (vJ W) gi.nil)));refine⟨h.size,fun enc B hB fuel cs d p e=>?_⟩;obtain⟨⟨x0,x1,x2,_⟩,⟨hl,⟨e0,_⟩,⟨e1,_⟩,⟨e2,_⟩,_⟩,_,hbk⟩:=h.open_ enc B hB fuel cs d p e
 obtain⟨c0,c1,c2,rfl⟩:∃c0 c1 c2,cs=[c0,c1,c2]:=by
  match cs,hl with
  | [c0,c1,c2],_=>exact⟨c0,c1,c2,rfl⟩
 dsimp only at e0 e1 e2 hbk;simp at e0 e1 e2;subst e0 e1 e2;exact⟨⟨x0,x1,x2⟩,⟨rfl,trivial⟩,fun _=>trivial,by omega⟩
theorem G7:lC Tryz.prog W 214 2 (fun cs (o:fZ)=>cs=pZ o) (fun _=>True) (fun _=>3):=by
 have h:=lC.struct (P:=Tryz.prog) (W:=W) (t:=214) (sz:=2) (fl:=[(3,0),(3,1)]) (by kernel_rfl) (by kernel_rfl) (gi.cons (vJ W) (gi.cons (vJ W) gi.nil));refine⟨h.size,fun enc B hB fuel cs d p e=>?_⟩;obtain⟨⟨x0,x1,_⟩,⟨hl,⟨e0,_⟩,⟨e1,_⟩,_⟩,_,hbk⟩:=h.open_ enc B hB fuel cs d p e
 obtain⟨c0,c1,rfl⟩:∃c0 c1,cs=[c0,c1]:=by
  match cs,hl with
  | [c0,c1],_=>exact⟨c0,c1,rfl⟩
 dsimp only at e0 e1 hbk;simp at e0 e1;subst e0 e1;exact⟨⟨x0,x1⟩,rfl,fun _=>trivial,by omega⟩
theorem G2:lC Tryz.prog W 216 4 (fun cs (o:aR)=>cs=mr o∧True) (fun _=>True) (fun o=>o.cy.size+6):=by
 have h:=lC.struct (P:=Tryz.prog) (W:=W) (t:=216) (sz:=4) (fl:=[(214,0),(9,2),(3,3)]) (by kernel_rfl) (by kernel_rfl) (gi.cons (G7 W) (gi.cons (Jd W) (gi.cons (vJ W) gi.nil)));refine⟨h.size,fun enc B hB fuel cs d p e=>?_⟩;obtain⟨⟨x0,x2,x3,_⟩,⟨hl,e0,⟨e2,_⟩,⟨e3,_⟩,_⟩,_,hbk⟩:=h.open_ enc B hB fuel cs d p e
 obtain⟨c0,c1,c2,c3,rfl⟩:∃c0 c1 c2 c3,cs=[c0,c1,c2,c3]:=by
  match cs,hl with
  | [c0,c1,c2,c3],_=>exact⟨c0,c1,c2,c3,rfl⟩
 dsimp only at e0 e2 e3 hbk;simp[pZ]at e0 e2 e3;obtain⟨e0,e1⟩:=e0;subst e0 e1 e2 e3;exact⟨⟨x0.rep,x0.num,x2,x3⟩,⟨rfl,trivial⟩,fun _=>trivial,by dsimp only at hbk ⊢;omega⟩
theorem sl {α:Type}(k:Nat):∀l:List α,(l.map fun _=>k).sum=l.length * k
 | []=>by simp
 | x::l=>by simp[sl k l,Nat.add_mul,Nat.add_comm]
theorem Gj:∀xs:List Int,(xs.flatMap fun x=>[iv x])=xs.map (Value.int .i64)
 | []=>rfl
 | x::xs=>by rw[List.flatMap_cons,Gj xs];rfl
theorem Hf:lC Tryz.prog W 60 1 (fun cs (l:Loc Int)=>cs=[.slice l.a l.xs.length l.c]∧j2 W l.a l.c l.xs) (fun _=>True) (fun l=>l.xs.length+1):=by
 have h:=lC.list (P:=Tryz.prog) (W:=W) (t:=60) (e:=3) (ru:=fun x=>[iv x]) (R:=fun _=>True) (by kernel_rfl) (by kernel_rfl) rfl (F9 W);refine⟨h.size,fun enc B hB fuel cs d p e=>?_⟩;obtain⟨xs,⟨A,c,h1,hR,_⟩,_,hbk⟩:=h.open_ enc B hB fuel cs d p e;rw[sl]at hbk;refine⟨⟨A,c,xs⟩,⟨h1,?_⟩,fun _=>trivial,by dsimp only;omega⟩
 have:(xs.flatMap fun x=>[iv x])=xs.map (Value.int .i64):=by
  exact Gj xs
 rwa[this]at hR
theorem Fp:lC Tryz.prog W 61 1 (fun cs (l:Loc aN)=>cs=[.slice l.a l.xs.length l.c]∧gF W l.a l.c l.xs) (fun _=>True) (fun l=>l.xs.length * 4+1):=by
 have h:=lC.list (P:=Tryz.prog) (W:=W) (t:=61) (e:=219) (ru:=gm) (R:=fun _=>True) (by kernel_rfl) (by kernel_rfl) rfl (F6 W);refine⟨h.size,fun enc B hB fuel cs d p e=>?_⟩;obtain⟨xs,⟨A,c,h1,hR,_⟩,_,hbk⟩:=h.open_ enc B hB fuel cs d p e;rw[sl]at hbk;exact⟨⟨A,c,xs⟩,⟨h1,hR⟩,fun _=>trivial,by dsimp only;omega⟩
def HL (es:List aR):Nat:=(es.map fun o=>o.cy.size+6).sum+1
def DD (p:aJ):Nat:=p.vec.length+p.ab.length * 4+3
def Dx (r:RL):Nat:=r.cy.size+DD r.p.d+2
def CF (rs:List RL):Nat:=(rs.map Dx).sum+1
def vE (s:SL):Nat:=HL s.e.es+DD s.p.d+CF s.r.rs+1
def DC (h:KL):Nat:=vE h.f+vE h.s+2
def yp (x:aT):Nat:=(x.hs.map DC).sum+4
theorem FB:lC Tryz.prog W 59 1 (fun cs (l:HQ)=>cs=[.slice l.a l.es.length l.c]∧l.ok W) (fun _=>True) (fun l=>HL l.es):=by
 have h:=lC.list (P:=Tryz.prog) (W:=W) (t:=59) (e:=216) (ru:=mr) (R:=fun _=>True) (by kernel_rfl) (by kernel_rfl) rfl (G2 W);refine⟨h.size,fun enc B hB fuel cs d p e=>?_⟩;obtain⟨xs,⟨A,c,h1,hR,_⟩,_,hbk⟩:=h.open_ enc B hB fuel cs d p e;exact⟨⟨A,c,xs⟩,⟨h1,hR⟩,fun _=>trivial,hbk⟩
theorem Cg:lC Tryz.prog W 63 2 (fun cs (p:PL)=>cs=nU p∧p.ok W) (fun _=>True) (fun p=>DD p.d):=by
 have h:=lC.struct (P:=Tryz.prog) (W:=W) (t:=63) (sz:=2) (fl:=[(60,0),(61,1)]) (by kernel_rfl) (by kernel_rfl) (gi.cons (Hf W) (gi.cons (Fp W) gi.nil));refine⟨h.size,fun enc B hB fuel cs d p e=>?_⟩;obtain⟨⟨x0,x1,_⟩,⟨hl,⟨e0,r0⟩,⟨e1,r1⟩,_⟩,_,hbk⟩:=h.open_ enc B hB fuel cs d p e
 obtain⟨c0,c1,rfl⟩:∃c0 c1,cs=[c0,c1]:=by
  match cs,hl with
  | [c0,c1],_=>exact⟨c0,c1,rfl⟩
 dsimp only at e0 e1 hbk r0 r1;simp at e0 e1;subst e0 e1;exact⟨⟨x0.a,x0.c,x1.a,x1.c,⟨x0.xs,x1.xs⟩⟩,⟨rfl,r0,r1⟩,fun _=>trivial,by dsimp only[DD]at hbk ⊢;omega⟩
theorem G6:lC Tryz.prog W 206 3 (fun cs (r:RL)=>cs=iT r∧r.p.ok W) (fun _=>True) Dx:=by
 have h:=lC.struct (P:=Tryz.prog) (W:=W) (t:=206) (sz:=3) (fl:=[(9,0),(63,1)]) (by kernel_rfl) (by kernel_rfl) (gi.cons (Jd W) (gi.cons (Cg W) gi.nil));refine⟨h.size,fun enc B hB fuel cs d p e=>?_⟩;obtain⟨⟨x0,x1,_⟩,⟨hl,⟨e0,_⟩,⟨e1,r1⟩,_⟩,_,hbk⟩:=h.open_ enc B hB fuel cs d p e
 obtain⟨c0,c1,c2,rfl⟩:∃c0 c1 c2,cs=[c0,c1,c2]:=by
  match cs,hl with
  | [c0,c1,c2],_=>exact⟨c0,c1,c2,rfl⟩
 dsimp only at e0 e1 hbk r1;simp[nU]at e0 e1;obtain⟨e1,e2⟩:=e1;subst e0 e1 e2;exact⟨⟨x0,x1⟩,⟨rfl,r1⟩,fun _=>trivial,by unfold Dx;dsimp only at hbk ⊢;omega⟩
theorem FT:lC Tryz.prog W 64 1 (fun cs (l:jr)=>cs=[.slice l.a l.rs.length l.c]∧l.ok W) (fun _=>True) (fun l=>CF l.rs):=by
 have h:=lC.list (P:=Tryz.prog) (W:=W) (t:=64) (e:=206) (ru:=iT) (R:=fun r=>r.p.ok W) (by kernel_rfl) (by kernel_rfl) rfl (G6 W);refine⟨h.size,fun enc B hB fuel cs d p e=>?_⟩;obtain⟨xs,⟨A,c,h1,hR,hr⟩,_,hbk⟩:=h.open_ enc B hB fuel cs d p e;exact⟨⟨A,c,xs⟩,⟨h1,⟨hR,hr⟩⟩,fun _=>trivial,hbk⟩
theorem y3 {t:Nat}(ht:placesOf Tryz.prog t=some [(59,0),(63,1),(64,3)])(hc:Tryz.prog.cellsOf t=4):lC Tryz.prog W t 4 (fun cs (s:SL)=>cs=nL s∧s.ok W) (fun _=>True) vE:=by
 have h:=lC.struct (P:=Tryz.prog) (W:=W) (t:=t) (sz:=4) (fl:=[(59,0),(63,1),(64,3)]) ht hc (gi.cons (FB W) (gi.cons (Cg W) (gi.cons (FT W) gi.nil)));refine⟨h.size,fun enc B hB fuel cs d p e=>?_⟩;obtain⟨⟨x0,x1,x2,_⟩,⟨hl,⟨e0,r0⟩,⟨e1,r1⟩,⟨e2,r2⟩,_⟩,_,hbk⟩:=h.open_ enc B hB fuel cs d p e
 obtain⟨c0,c1,c2,c3,rfl⟩:∃c0 c1 c2 c3,cs=[c0,c1,c2,c3]:=by
  match cs,hl with
  | [c0,c1,c2,c3],_=>exact⟨c0,c1,c2,c3,rfl⟩
 dsimp only at e0 e1 e2 hbk r0 r1 r2;simp[nU]at e0 e1 e2;obtain⟨e1,e3⟩:=e1;subst e0 e1 e2 e3;exact⟨⟨x0,x1,x2⟩,⟨rfl,r0,r1,r2⟩,fun _=>trivial,by unfold vE;dsimp only at hbk ⊢;omega⟩
theorem FC:lC Tryz.prog W 72 9 (fun cs (h:KL)=>cs=iQ h∧(h.f.ok W∧h.s.ok W)) (fun _=>True) DC:=by
 have h:=lC.struct (P:=Tryz.prog) (W:=W) (t:=72) (sz:=9) (fl:=[(3,0),(66,1),(70,5)]) (by kernel_rfl) (by kernel_rfl) (gi.cons (vJ W) (gi.cons (y3 W (t:=66) (by kernel_rfl) (by kernel_rfl)) (gi.cons (y3 W (t:=70) (by kernel_rfl) (by kernel_rfl)) gi.nil)));refine⟨h.size,fun enc B hB fuel cs d p e=>?_⟩;obtain⟨⟨x0,x1,x2,_⟩,⟨hl,⟨e0,_⟩,⟨e1,r1⟩,⟨e2,r2⟩,_⟩,_,hbk⟩:=h.open_ enc B hB fuel cs d p e
 obtain⟨c0,c1,c2,c3,c4,c5,c6,c7,c8,rfl⟩:∃c0 c1 c2 c3 c4 c5 c6 c7 c8,cs=[c0,c1,c2,c3,c4,c5,c6,c7,c8]:=by
  match cs,hl with
  | [c0,c1,c2,c3,c4,c5,c6,c7,c8],_=>exact⟨c0,c1,c2,c3,c4,c5,c6,c7,c8,rfl⟩
 dsimp only at e0 e1 e2 hbk r1 r2;simp[nL]at e0 e1 e2;obtain⟨e1,e3,e4,e5⟩:=e1;obtain⟨e2,e6,e7,e8⟩:=e2;subst e0 e1 e2 e3 e4 e5 e6 e7 e8;exact⟨⟨x0,x1,x2⟩,⟨rfl,r1,r2⟩,fun _=>trivial,by unfold DC;dsimp only at hbk ⊢;omega⟩
theorem Jx:lC Tryz.prog W 24 3 (fun cs (x:aT)=>cs=[.int .i64 x.self,.int .i64 x.next,.slice x.a x.hs.length x.c]∧x.ok W) (fun _=>True) yp:=by
 have hs:=lC.list (P:=Tryz.prog) (W:=W) (t:=22) (e:=72) (ru:=iQ) (R:=fun h=>h.f.ok W∧h.s.ok W) (by kernel_rfl) (by kernel_rfl) rfl (FC W);have h:=lC.struct (P:=Tryz.prog) (W:=W) (t:=24) (sz:=3) (fl:=[(3,0),(3,1),(22,2)]) (by kernel_rfl) (by kernel_rfl) (gi.cons (vJ W) (gi.cons (vJ W) (gi.cons hs gi.nil)));refine⟨h.size,fun enc B hB fuel cs d p e=>?_⟩;obtain⟨⟨x0,x1,x2,_⟩,⟨hl,⟨e0,_⟩,⟨e1,_⟩,⟨A,c,e2,hR,hr⟩,_⟩,_,hbk⟩:=h.open_ enc B hB fuel cs d p e
 obtain⟨c0,c1,c2,rfl⟩:∃c0 c1 c2,cs=[c0,c1,c2]:=by
  match cs,hl with
  | [c0,c1,c2],_=>exact⟨c0,c1,c2,rfl⟩
 dsimp only at e0 e1 e2 hbk hR hr;simp at e0 e1 e2;subst e0 e1 e2;exact⟨⟨x0,x1,A,c,x2⟩,⟨rfl,hR,fun h hh=>(hr h hh).1,fun h hh=>(hr h hh).2⟩,fun _=>trivial,by unfold yp;dsimp only at hbk ⊢;omega⟩
end
theorem s6 {α:Type}{f:α→Nat}:∀ {l:List α} {x:α},x∈l→f x≤(l.map f).sum
 | y :: l, x, h => by
   rw[List.map_cons,List.sum_cons];rcases List.mem_cons.1 h with rfl | h
   ·
    omega
   ·
    have:=s6 (f:=f) h;omega
theorem j0.of {s:SL}(h:vE s≤1048576):j0 s:=by
 unfold vE HL DD CF at h;have h1:=An (f:=fun o:aR=>o.cy.size+6) (fun x=>by omega) s.e.es;refine⟨by omega,by omega,by omega,fun r hr=>?_,?_⟩
 ·
  have:=s6 (f:=Dx) hr;have h2:r.p.d.vec.length≤Dx r:=by unfold Dx DD;omega
  omega
 ·
  have:cO (s.r.rs.map fun r=>r.p.d)≤(s.r.rs.map Dx).sum:=by
   clear h h1
   generalize s.r.rs=rs
   induction rs with
   | nil=>exact Nat.zero_le _
   | cons r rs ih =>
     unfold cO at *;simp only[List.map_cons,List.sum_cons];have:r.p.d.ab.length+1≤Dx r:=by unfold Dx DD;omega
     omega
  omega
theorem aT.Jy {x:aT}(h:yp x≤1048576):x.small:=by
 unfold yp at h;have h1:=An (f:=DC) (fun x=>by unfold DC;omega) x.hs;refine⟨by omega,fun y hy=>j0.of ?_,fun y hy=>j0.of ?_⟩<;>(have:=s6 (f:=DC) hy;have h2:vE y.f+vE y.s+2=DC y:=rfl;omega)
theorem wV {p:aJ}(h:AD p)(hc:p.ab.length≤1000000000):(cB p).length≤18+9 * p.vec.length+27 * p.ab.length:=by
 unfold cB;have hv:=h.len;have h1:=nine (n:=p.vec.length) (by omega);have h2:=nine (n:=p.ab.length) (by omega)
 have h3:(seqB (ki 1000000000).g none p.vec).length≤p.vec.length * 9:=by
  refine uT (F:=(ki 1000000000).F) (fun _ x hx=>?_) _ _ (mI.2 fun v hv2=>?_)
  ·
   exact nine (by have:=hx.1;have:=hx.2.2;omega)
  ·
   have:=h.vec v hv2;omega
 have h4:(seqB (gX p.vec) none p.ab).length≤p.ab.length * 27:=by
  have hcl:iU (fun a b=>gl p.vec a b=true) none p.ab:=oS.1 h.ab
  have hb:∀(l:List aN) (q:Option aN),iU (fun a b=>gl p.vec a b=true) q l→(∀y,q=some y→0≤y.rep∧0≤y.hi)→(seqB (gX p.vec) q l).length≤l.length * 27:=by
   intro l
   induction l with
   | nil=>intro q _ _;simp[seqB]
   | cons x l ih =>
     intro q hq hy;obtain⟨a,b,c,d,e,f⟩:=xP hq.1;have hp:0≤cF q:=by unfold cF;cases q with | none=>simp | some y=>exact (hy y rfl).1
     have hl:0≤bt p.vec q x.rep:=by
      unfold bt;have:=dt h.vec x.rep.toNat;cases q with
      | none=>simp only;omega
      | some y=>have:=(hy y rfl).2;simp only;split<;>omega
     have h5:=ih (some x) hq.2 (fun y hy2=>by cases hy2;exact⟨a,by omega⟩);have n1:=nine (n:=(x.rep-cF q).toNat) (by omega);have n2:=nine (n:=(x.lo-bt p.vec q x.rep).toNat) (by omega);have n3:=nine (n:=(x.hi-x.lo).toNat) (by omega);have hg:(gX p.vec q x).length≤27:=by unfold gX;simp only[List.length_append];omega
     rw[seqB,List.length_append,List.length_cons,Nat.add_mul];omega
  exact hb _ none hcl (fun y hy=>by cases hy)
 simp only[List.length_append];omega
theorem zR:∀(l:List RL) (q:Option bS),(∀r∈l,fb r.d=true∧r.p.d.ab.length≤1000000000)→(seqB ie q (l.map RL.d)).length≤9 * (l.map Dx).sum
 | [],q,_=>by simp[seqB]
 | x :: l, q, hq => by
   obtain⟨hw0,hw1⟩:=mv (hq x (by simp)).1;have h3:=wV hw1.toAD (hq x (by simp)).2;have h4:=zR l (some x.d) (fun r hr=>hq r (by simp[hr]));have h5:=nine (n:=x.d.cy.data.toList.length) (by omega)
   have hg:(ie q x.d).length≤9+x.cy.size+(cB x.d.bB).length:=by
    unfold ie;simp only[List.length_append];have:x.d.cy.data.toList.length=x.cy.size:=by show x.cy.data.toList.length=_;rw[Array.length_toList];rfl
    omega
   rw[List.map_cons,List.map_cons,seqB,List.length_append,List.sum_cons];have h6:x.d.bB=x.p.d:=rfl;rw[h6]at hg h3;unfold Dx DD;unfold Dx DD at h4;omega
theorem Ht {k:Nat}{s:SL}(hk:k≤2)(hf:aB s.d=true)(hb:vE s≤1048576):(cq k s.d).length≤10 * vE s+20:=by
 have hs:=j0.of hb;obtain⟨h1,h2,h3⟩:=a7 hf;have hes:=hs.es;have hpc:=hs.pc;have k1:=kR (i7 h1) (by show s.e.es.length≤_;omega);have k2:=wV (fw.1 h2).toAD (by show s.p.d.ab.length≤_;omega)
 have k3:(bV s.d.lY).length≤9+9 * (s.r.rs.map Dx).sum:=by
  have hl:=jh hs.rs;unfold bV;have n1:=nine (n:=s.d.lY.length) (by show (s.r.rs.map RL.d).length≤_;rw[List.length_map];omega);have n2:=zR s.r.rs none (fun r hr=>⟨fA h3 r.d (List.mem_map.2 ⟨r,hr,rfl⟩),by have:=(eQ hs.rv hs.rs r hr).2;omega⟩);rw[List.length_append];show _+(seqB ie none (s.r.rs.map RL.d)).length≤_;omega
 have e1:s.d.kL=s.e.es:=rfl;have e2:s.d.bB=s.p.d:=rfl;rw[e1]at k1;rw[e2]at k2;unfold vE HL DD CF at hb ⊢
 have b1:6 * s.e.es.length≤(s.e.es.map fun o=>o.cy.size+6).sum:=by
  clear hb k1 hes hs
  generalize s.e.es=es
  induction es with
  | nil=>simp
  | cons x es ih=>simp only[List.map_cons,List.sum_cons,List.length_cons];omega
 have k4:=nine (n:=(cI s.d.kL).length) (by rw[e1];omega);have k5:=nine (n:=(cB s.d.bB).length) (by rw[e2];omega);have k6:=nine (n:=(bV s.d.lY).length) (by omega);have k7:=nine (n:=k) (by omega);unfold cq fr;rw[e1,e2]at *;simp only[List.length_append];omega
theorem wO (k:Nat)(hk:k≤2)(g:KL→NL)(hg:∀h,vE (g h).s+8≤DC h):∀hs:List KL,(∀h∈hs,0≤(g h).ba∧(g h).ba<64∧aB (g h).s.d=true∧DC h≤1048576)→(bg k ((hs.map g).map NL.d)).length≤10 * (hs.map DC).sum
 | [],_=>by simp[bg]
 | x :: hs, h => by
   have h1:=wO k hk g hg hs (fun y hy=>h y (by simp[hy]));obtain⟨a,b,c,d⟩:=h x (by simp);have h2:=Ht hk c (by have:=hg x;omega);have h3:=hg x;have n1:=nine (n:=(g x).ba.toNat) (by omega);have n2:=nine (n:=(cq k (g x).s.d).length) (by omega);have e:bg k (((x::hs).map g).map NL.d)=(aE (g x).ba.toNat++(aE (cq k (g x).s.d).length++cq k (g x).s.d))++bg k ((hs.map g).map NL.d):=rfl;rw[e,List.map_cons,List.sum_cons];simp only[List.length_append];omega
theorem BK {k:Nat}{f:iW→Bool}(hk:k≤2)(hf:∀d,f d=true→aB d=true){x:aT}(g:KL→NL)(hg:∀h,vE (g h).s+8≤DC h)(hb:yp x≤1048576)(hok:iV f ⟨x.self,x.next,(x.hs.map g).map NL.d⟩=true):(bh k ⟨x.self,x.next,(x.hs.map g).map NL.d⟩).length≤12000000:=by
 obtain⟨a1,a2,a3,a4,a5⟩:=cT (fE hok);have hl:=kD a5;unfold yp at hb
 have h1:=wO k hk g hg x.hs (fun h hh=>by
  have hm:(g h).d∈(x.hs.map g).map NL.d:=List.mem_map.2 ⟨g h,List.mem_map.2 ⟨h,hh,rfl⟩,rfl⟩;obtain⟨c1,c2⟩:=mT a5 _ hm;exact⟨c1,c2,hf _ (s4 hok _ hm),by have:=s6 (f:=DC) hh;omega⟩)
 have h2:=DO (s:=x.self.toNat) (n:=x.next.toNat) (c:=((x.hs.map g).map NL.d).length) (by simp only at a1 a2;omega) (by simp only at a3 a4;omega) (by simp only at hl;omega);unfold bh;rw[gK];unfold dn;rw[List.length_append];simp only at h2 h1 ⊢;omega
theorem IS {x:aT}(hb:yp x≤1048576)(hok:iV aB x.d1=true):(bh 1 x.d1).length≤12000000:=BK (by decide) (fun _ h=>h) KL.n1 (fun h=>by show vE h.f+8≤vE h.f+vE h.s+2;unfold vE DD HL CF;omega) hb hok
theorem HT {x:aT}(hb:yp x≤1048576)(hok:iV bz x.d2=true):(bh 2 x.d2).length≤12000000:=BK (by decide) (fun _ h=>dZ h) KL.n2 (fun h=>by show vE h.s+8≤vE h.f+vE h.s+2;unfold vE DD HL CF;omega) hb hok
end Go.Proofs.YtkjabaihpkbfhaaGreat.Wk
