/- Texts of our own that a row leans on, put together. No condition of their own. -/
import Derived.Test.YtkjabaihpkbfhaaGreatMRowSaveFlips4
set_option linter.unusedVariables false
set_option linter.unusedSimpArgs false
set_option maxRecDepth 100000
set_option maxHeartbeats 2000000
namespace Go.Proofs.YtkjabaihpkbfhaaGreat.Wk
open Go Go.RowKit Go.Proofs.YtkjabaihpkbfhaaGreat Go.Proofs.YtkjabaihpkbfhaaGreat.K Go.Proofs.YtkjabaihpkbfhaaGreat.T
theorem sU (W:World)(B:Option Addr)(d:Nat)(xs:List aR)(hX:fK W B d xs)(hxl:xs.length≤1000000000):Calls Tryz.prog 182 #[.slice B (xs).length d] W fun e w'=>∃A' c',e=.returned (.tuple #[.slice A' (if cd xs=true then cI xs else []).length c',.int .i64 (if cd xs=true then 0 else 1)])∧Sat W w' [row 5 1 (.slice A' (if cd xs=true then cI xs else []).length c') (if cd xs=true then cI xs else []).length ((if cd xs=true then cI xs else []).map ai)]:=by
 refine bP Tryz.func182 [0] ?_;have O:=Sat.start W;have hn0:=bd (n:=xs.length) (by omega);refine uC 10 ?_;refine uF rfl (ug _ B d xs (hX.sat O) (by omega)) ?_;rintro e w ⟨rfl,hT⟩;replace O:Sat _ _ _:=O.ag hT;clear hT;generalize h10:cd xs=bb;cases bb
 ·refine u1 11 (aI rfl) ?_;refine ft ?_;simp only[h10,Bool.false_eq_true,if_false];exact⟨none,0,rfl,bY (O.aX 5 1)⟩
 ·have hk:=i7 h10;refine u1 8 (aI rfl) ?_;refine u1 0 (ak rfl bA) ?_;refine uF rfl (iu _ _ _ none 0 [] xs.length ((O.aX 5 1)) (by omega) (by simp)) ?_;clear O;rintro e w ⟨A14,c14,rfl,O⟩;refine uO 16 ?_;intro a I;refine wp_loop_ghost (fun (mm:Nat) a w=>∃(i:Nat) (out:List UInt8) (Ao:Option Addr) (co:Nat),Ag a 63 [(0,.slice B (xs).length d),(4,.slice Ao (out).length co),(5,.int .i64 ((bC (ahead none xs i)))),(6,.int .i64 ((n0 (ahead none xs i)-1))),(7,.int .i64 ((i:Nat):Int))]∧Sat W w ([row 5 1 (.slice Ao (out).length co) (out).length ((out).map ai)])∧(i≤xs.length)∧(out=aE xs.length++seqB mw none (xs.take i))∧(out.length≤9+60 * i)∧mm=xs.length-i) xs.length ?_ ?_
  ·replace I:=I.kp [0,4,5,6,7] rfl;exact⟨0,_,_,_,I,O,(by omega),(by simp[seqB]),(by simp only[List.length_append,List.length_nil];omega),by omega⟩
  intro m a w hI;clear O I;obtain⟨i,out,Ao,co,I,O,hi,ho,hol,rfl⟩:=hI;refine rC 5 I ?_;clear I a;refine u1 0 (ak rfl bA) ?_;refine aK 0 0 (aq rfl rfl) ?_ ?_
  ·intro h18;refine uO 11 ?_;obtain⟨B_p,rfl⟩:∃q,B=some q:=(hX.sat O).ao (by omega);obtain⟨x,hx⟩:∃zz_,xs[i]?=some zz_:=⟨_,List.getElem?_eq_getElem (by omega)⟩;have hw:=xk hk hx;intro a I;unfold ot at hw;obtain⟨hw0,hw1,hw2,hw3,hw4,hw5,hw6,hw7,hw8⟩:=hw;have hp0:=qW hk i;obtain⟨hq0,hq1⟩:=wB hk i x.rep;obtain⟨hq2,hq3⟩:=xm hk i;have hn1:=bd (n:=(x.rep-bC (ahead none xs i)).toNat) (by omega);have hn3:=bd (n:=x.cy.data.toList.length) (by omega);have hn4:=bd (n:=(x.qg-1).toNat) (by omega);refine o1 0 I (fV (I.ev rfl) (I.ev rfl) bA dp (by omega) (by omega)) ?_;clear I a;refine u1 0 (aw rfl cj) ?_;refine u1 0 (ax (cs:=[.int .i64 x.rep,.int .i64 x.num]) rfl om gW (fun j u e=>kV (hX.sat O) (cS hx _ u (js x j u e)))) ?_;refine uN Bw O ?_;clear O;intro b8 w O
   refine uW (vs:=[_,_]) (cs':=[_,_]) rfl rfl gW O ?_;clear O;intro w O;refine uO 5 ?_;refine u1 0 (aa rfl bu) ?_;refine u1 1 (ld rfl) ?_;refine aK 0 0 (aG rfl rfl) ?_ ?_
   ·intro h29;have hnx0:dM (ahead none xs i) x.rep=1:=mb h29;intro a I;rw[hnx0]at hw8;have hn2:=bd (n:=(x.num-0-1).toNat) (by omega);refine rO 10 I ?_;clear I a;refine u1 0 (aa rfl bu) ?_;refine u1 1 (ld rfl) ?_;refine u1 0 (sb rfl rfl) ?_;refine uF rfl (cw _ _ _ _ _ _ (x.rep-bC (ahead none xs i)) (O.p 1) (by omega) (by omega) (by omega)) ?_;clear O;rintro e w ⟨A35,c35,rfl,O⟩;refine uO 6 ?_;refine u1 0 (aa rfl bN) ?_;refine u1 1 (ld rfl) ?_;refine u1 0 (sb rfl rfl) ?_;refine u1 0 (sb rfl rfl) ?_;refine uF rfl (cw _ _ _ _ _ _ _ O (by omega) (by omega) (by (simp only[List.length_append,List.length_nil];omega))) ?_;clear O;rintro e w ⟨A42,c42,rfl,O⟩;refine uO 8 ?_;refine u1 0 (ix rfl rfl bA dp) ?_;refine u1 0 (aw rfl jt) ?_;refine u1 0 (aj rfl DM (bI (hX.sat O) (cS hx 2 _ rfl))) ?_
    refine uF rfl (nt _ _ _ _ _ _ x.cy O (by omega) (by (simp only[List.length_append];omega))) ?_;clear O;rintro e w ⟨A49,c49,rfl,O⟩;refine uO 8 ?_;refine u1 0 (ix rfl rfl bA dp) ?_;refine u1 0 (aw rfl hU) ?_;refine u1 0 (aj rfl dE (bI (hX.sat O) (cS hx 3 _ rfl))) ?_;refine u1 0 (sb rfl rfl) ?_;refine uF rfl (cw _ _ _ _ _ _ (x.qg-1) O (by omega) (by omega) (by (simp only[List.length_append,List.length_nil];omega))) ?_;clear O;rintro e w ⟨A57,c57,rfl,O⟩;refine uO 3 ?_;intro a I;refine cD (fun w'=>Sat _ w' _) (by kernel_rfl) (by kernel_rfl) O.drew ?_;refine Q1 0 I (fun w O=>(aa (I.ev rfl) bu)) ?_;clear I a;refine bc 0 (fun w O=>(ld rfl)) ?_;refine bc 0 (fun w O=>(aa rfl bN)) ?_;refine bc 2 (fun w O=>(ld rfl)) ?_;intro a I;refine wpQuiet_nil ?_;clear O;intro w O
    refine rE 4 I ?_;clear I a;refine u1 2 (ad rfl rfl) ?_;intro a I;replace I:=I.kp [0,4,5,6,7] rfl;have e6:x.rep=bC (ahead none xs (i+1)):=by rw[cG hx];rfl
    have e7:x.num=n0 (ahead none xs (i+1))-1:=by rw[cG hx];show _=x.num+1-1;omega
    have e8:x.num-0-1=x.num-1:=by omega
    refine⟨xs.length-(i+1),by omega,i+1,_,_,_,?_,bY (O.p 1).drop,by omega,?_,by simp only[List.length_append];omega,rfl⟩
    ·rw[←e6,←e7];exact I
    rw[dT hx,ho];unfold mw;rw[hnx0,e8];simp only[List.append_assoc]
   ·intro h29;have hnx0:dM (ahead none xs i) x.rep=n0 (ahead none xs i):=k8 (by omega);intro a I;rw[hnx0]at hw8;have hn2:=bd (n:=(x.num-(n0 (ahead none xs i)-1)-1).toNat) (by omega);refine rO 8 I ?_;clear I a;refine u1 0 (aa rfl bu) ?_;refine u1 1 (ld rfl) ?_;refine u1 0 (sb rfl rfl) ?_;refine uF rfl (cw _ _ _ _ _ _ (x.rep-bC (ahead none xs i)) (O.p 1) (by omega) (by omega) (by omega)) ?_;clear O;rintro e w ⟨A35,c35,rfl,O⟩;refine uO 6 ?_;refine u1 0 (aa rfl bN) ?_;refine u1 1 (ld rfl) ?_;refine u1 0 (sb rfl rfl) ?_;refine u1 0 (sb rfl rfl) ?_;refine uF rfl (cw _ _ _ _ _ _ _ O (by omega) (by omega) (by (simp only[List.length_append,List.length_nil];omega))) ?_;clear O;rintro e w ⟨A42,c42,rfl,O⟩
    refine uO 8 ?_;refine u1 0 (ix rfl rfl bA dp) ?_;refine u1 0 (aw rfl jt) ?_;refine u1 0 (aj rfl DM (bI (hX.sat O) (cS hx 2 _ rfl))) ?_;refine uF rfl (nt _ _ _ _ _ _ x.cy O (by omega) (by (simp only[List.length_append];omega))) ?_;clear O;rintro e w ⟨A49,c49,rfl,O⟩;refine uO 8 ?_;refine u1 0 (ix rfl rfl bA dp) ?_;refine u1 0 (aw rfl hU) ?_;refine u1 0 (aj rfl dE (bI (hX.sat O) (cS hx 3 _ rfl))) ?_;refine u1 0 (sb rfl rfl) ?_;refine uF rfl (cw _ _ _ _ _ _ (x.qg-1) O (by omega) (by omega) (by (simp only[List.length_append,List.length_nil];omega))) ?_;clear O;rintro e w ⟨A57,c57,rfl,O⟩;refine uO 3 ?_;intro a I;refine cD (fun w'=>Sat _ w' _) (by kernel_rfl) (by kernel_rfl) O.drew ?_;refine Q1 0 I (fun w O=>(aa (I.ev rfl) bu)) ?_;clear I a
    refine bc 0 (fun w O=>(ld rfl)) ?_;refine bc 0 (fun w O=>(aa rfl bN)) ?_;refine bc 2 (fun w O=>(ld rfl)) ?_;intro a I;refine wpQuiet_nil ?_;clear O;intro w O;refine rE 4 I ?_;clear I a;refine u1 2 (ad rfl rfl) ?_;intro a I;replace I:=I.kp [0,4,5,6,7] rfl;have e6:x.rep=bC (ahead none xs (i+1)):=by rw[cG hx];rfl
    have e7:x.num=n0 (ahead none xs (i+1))-1:=by rw[cG hx];show _=x.num+1-1;omega
    have e8:x.num-(n0 (ahead none xs i)-1)-1=x.num-n0 (ahead none xs i):=by omega
    refine⟨xs.length-(i+1),by omega,i+1,_,_,_,?_,bY (O.p 1).drop,by omega,?_,by simp only[List.length_append];omega,rfl⟩
    ·rw[←e6,←e7];exact I
    rw[dT hx,ho];unfold mw;rw[hnx0,e8];simp only[List.append_assoc]
  ·intro h18;refine uO 8 ?_;intro a I;replace I:=I.kp [4] rfl;refine rC 8 I ?_;clear I a;refine ft ?_;have hie:i=xs.length:=by omega
   rw[hie,List.take_length]at ho;have ho:out=cI xs:=ho;subst ho;simp only[h10,if_true];exact⟨_,_,rfl,O⟩
theorem sQ (W:World)(B:Option Addr)(d:Nat)(rs:List RL)(hR:fG W B d rs)(hE:∀r∈rs,r.p.ok W)(hB:dy 1000000000 rs)(hs:cO (rs.map fun r=>r.p.d)≤1000000000):Calls Tryz.prog 184 #[.slice B (rs).length d] W fun e w'=>∃A' c',e=.returned (.tuple #[.slice A' (if cC (rs.map RL.d)=true then bV (rs.map RL.d) else []).length c',.int .i64 (if cC (rs.map RL.d)=true then 0 else 1)])∧Sat W w' [row 5 1 (.slice A' (if cC (rs.map RL.d)=true then bV (rs.map RL.d) else []).length c') (if cC (rs.map RL.d)=true then bV (rs.map RL.d) else []).length ((if cC (rs.map RL.d)=true then bV (rs.map RL.d) else []).map ai)]:=by
 refine bP Tryz.func184 [0] ?_;have O:=Sat.start W;have hrl:=jh hs;have hn0:=bd (n:=rs.length) (by omega);refine uC 10 ?_;refine uF rfl (qG _ B d rs (hR.sat O) (fun r h=>(hE r h).sat O) (hB.mono (by decide)) (by omega)) ?_;rintro e w ⟨rfl,hT⟩;replace O:Sat _ _ _:=O.ag hT;clear hT;generalize h7:cC (rs.map RL.d)=bb;cases bb
 ·rw[if_neg (by decide)];refine aK 0 0 (aG rfl rfl) ?_ ?_
  ·intro h8;refine uO 11 ?_;refine ft ?_;simp only[h7,Bool.false_eq_true,if_false];exact⟨none,0,rfl,bY (O.aX 5 1)⟩
  ·intro h8;intro a I;contradiction
 ·rw[if_pos rfl];have hk:=fA h7;have hbm:=kT hk (by rw[gI];exact hs);rw[gI]at hbm;refine aK 0 0 (aG rfl rfl) ?_ ?_
  ·intro h8;intro a I;contradiction
  ·intro h8;refine uO 8 ?_;refine u1 0 (ak rfl cY) ?_;refine uF rfl (iu _ _ _ none 0 [] rs.length ((O.aX 5 1)) (by omega) (by simp)) ?_;clear O;rintro e w ⟨A11,c11,rfl,O⟩;refine uO 10 ?_;intro a I;refine wp_loop_ghost (fun (mm:Nat) a w=>∃(i:Nat) (out:List UInt8) (Ao:Option Addr) (co:Nat),Ag a 33 [(0,.slice B (rs).length d),(4,.slice Ao (out).length co),(5,.int .i64 ((i:Nat):Int))]∧Sat W w ([row 5 1 (.slice Ao (out).length co) (out).length ((out).map ai)])∧(i≤rs.length)∧(out=aE rs.length++seqB ie none ((rs.map RL.d).take i))∧mm=rs.length-i) rs.length ?_ ?_
   ·replace I:=I.kp [0,4,5] rfl;exact⟨0,_,_,_,I,O,(by omega),(by simp[seqB]),by omega⟩
   intro m a w hI;clear O I;obtain⟨i,out,Ao,co,I,O,hi,ho,rfl⟩:=hI;refine rC 5 I ?_;clear I a;refine u1 0 (ak rfl cY) ?_;refine aK 0 0 (aq rfl rfl) ?_ ?_
   ·intro h15;refine uO 12 ?_;obtain⟨B_p,rfl⟩:∃q,B=some q:=(hR.sat O).ao (by omega);obtain⟨x,hx⟩:∃zz_,rs[i]?=some zz_:=⟨_,List.getElem?_eq_getElem (by omega)⟩;have hw:=mv (hk x.d (List.mem_of_getElem? (bO hx)));obtain⟨hw0,hw1⟩:=hw;have hw2:x.cy.data.toList.length≤24:=hw0;have hxo:=hE x (List.mem_of_getElem? hx);obtain⟨hxv,hxc⟩:=hB.get hx;have hsm:=xp (g:=ie) (rs.map RL.d) none (i+1);intro a I;rw[dT (bO hx),List.length_append]at hsm;have hrg:(ie (ahead none (rs.map RL.d) i) x.d).length=(aE x.cy.data.toList.length).length+(x.cy.data.toList.length+(cB x.p.d).length):=by unfold ie;simp only[List.length_append];rfl
    have hol:out.length=(aE rs.length).length+(seqB ie none ((rs.map RL.d).take i)).length:=by rw[ho];simp only[List.length_append]
    have hlr:(bV (rs.map RL.d)).length=(aE rs.length).length+(seqB ie none (rs.map RL.d)).length:=by unfold bV;rw[List.length_append,List.length_map]
    refine o1 0 I (fV (I.ev rfl) (I.ev rfl) cY ct (by omega) (by omega)) ?_;clear I a;refine u1 0 (aw rfl bW) ?_;refine u1 0 (aj rfl DM (bI (hR.sat O) (cR hx 0 _ rfl))) ?_;refine uF rfl (nt _ _ _ _ _ _ x.cy O (by omega) (by omega)) ?_;clear O;rintro e w ⟨A24,c24,rfl,O⟩;refine uO 7 ?_;refine u1 0 (ix rfl rfl cY ct) ?_;refine u1 0 (aw rfl bK) ?_;refine u1 0 (ax (cs:=[.slice x.p.va x.p.d.vec.length x.p.vc,.slice x.p.ca x.p.d.ab.length x.p.cc]) rfl fu bo (fun j u e=>kV (hR.sat O) (cR hx _ u (oq x j u e)))) ?_;refine uF rfl (pB _ _ _ _ _ _ x.p O hxo hw1.toAD hxc (by simp only[List.length_append];omega)) ?_;clear O;rintro e w ⟨A31,c31,rfl,O⟩;refine uO 6 ?_;refine u1 2 (ad rfl rfl) ?_;intro a I;replace I:=I.kp [0,4,5] rfl
    refine⟨rs.length-(i+1),by omega,i+1,_,_,_,I,O,by omega,?_,rfl⟩;rw[dT (bO hx),ho];unfold ie;simp only[List.append_assoc]
    rfl
   ·intro h15;refine uO 8 ?_;intro a I;replace I:=I.kp [4] rfl;refine rC 8 I ?_;clear I a;refine ft ?_;have hie:i=rs.length:=by omega
    rw[hie,List.take_of_length_le (by simp)]at ho;have ho:out=bV (rs.map RL.d):=by rw[ho];unfold bV;rw[List.length_map]
    subst ho;simp only[h7,if_true];exact⟨_,_,rfl,O⟩
theorem wc {α:Type}{xs ys:List α}(h:xs.length=ys.length)(he:∀j,j<xs.length→xs[j]?=ys[j]?):xs=ys:=by
 refine List.ext_getElem? fun j=>?_;rcases Nat.lt_or_ge j xs.length with hj | hj
 ·
  exact he j hj
 ·
  rw[List.getElem?_eq_none hj,List.getElem?_eq_none (by omega)]
theorem mP (W:World)(A:Option Addr)(c:Nat)(xs:List UInt8)(B:Option Addr)(d:Nat)(ys:List UInt8)(hX:Rd W 1 (.slice A xs.length c) xs.length (xs.map ai))(hY:Rd W 1 (.slice B ys.length d) ys.length (ys.map ai))(hl:xs.length≤1000000000000):Calls Tryz.prog 13 #[.slice A (xs).length c,.slice B (ys).length d] W fun e w'=>e=.returned (.bool (decide (xs=ys)))∧Sat W w' []:=by
 refine bP Tryz.func13 [0,1] ?_;have O:=Sat.start W;refine uC 9 ?_;refine u1 1 (ak rfl aW) ?_;refine u1 0 (ak rfl aW) ?_;refine aK 0 0 (aG rfl rfl) ?_ ?_
 ·intro h10;refine uO 10 ?_;refine aS ?_;rw[decide_eq_false fun e=>(by rw[e]at h10;omega)];exact⟨rfl,O⟩
 ·intro h10;refine uO 12 ?_;intro a I;refine wp_loop_ghost (fun (mm:Nat) a w=>∃(i:Nat),Ag a 26 [(0,.slice A (xs).length c),(1,.slice B (ys).length d),(5,.int .i64 ((i:Nat):Int))]∧Sat W w ([])∧(i≤xs.length)∧(∀j,j<i→xs[j]?=ys[j]?)∧mm=xs.length-i) xs.length ?_ ?_
  ·replace I:=I.kp [0,1,5] rfl;exact⟨0,I,O,(by omega),(by intro j hj;omega),by omega⟩
  intro m a w hI;clear O I;obtain⟨i,I,O,hi,he,rfl⟩:=hI;refine rC 5 I ?_;clear I a;refine u1 0 (ak rfl aW) ?_;refine aK 0 0 (aq rfl rfl) ?_ ?_
  ·intro h14;refine uO 8 ?_;intro a I;refine cD (fun w'=>Sat _ w' _) (by kernel_rfl) (by kernel_rfl) O.drew ?_;refine rQ 2 I ?_;clear I a;obtain⟨A_p,rfl⟩:∃q,A=some q:=(hX.sat O).ao (by omega);obtain⟨x,hx⟩:∃zz_,xs[i]?=some zz_:=⟨_,List.getElem?_eq_getElem (by omega)⟩;refine bc 0 (fun w O=>(ix rfl rfl aW mJ)) ?_;refine bc 2 (fun w O=>(aj rfl o0 (eO (hX.sat O) (aV hx)))) ?_;obtain⟨B_p,rfl⟩:∃q,B=some q:=(hY.sat O).ao (by omega);obtain⟨y,hy⟩:∃zz_,ys[i]?=some zz_:=⟨_,List.getElem?_eq_getElem (by omega)⟩;refine bc 0 (fun w O=>(ix rfl rfl aW mJ)) ?_;refine bc 0 (fun w O=>(aj rfl o0 (eO (hY.sat O) (aV hy)))) ?_;intro a I;refine K.rn I rfl rfl rfl (fun w O=>(aG (I.ev rfl) (I.ev rfl))) ?_ ?_
   ·clear I a;intro h25;intro a I;refine wpQuiet_nil ?_;clear O;intro w O;refine rE 13 I ?_;clear I a;refine aS ?_;rw[decide_eq_false fun e=>(by rw[e]at hx;rw[hx]at hy;cases hy;omega)];exact⟨rfl,O⟩
   ·clear I a;intro h25;intro a I;refine wpQuiet_nil ?_;clear O;intro w O;refine rE 7 I ?_;clear I a;refine u1 2 (ad rfl rfl) ?_;intro a I;replace I:=I.kp [0,1,5] rfl;exact⟨xs.length-(i+1),by omega,i+1,I,O,by omega,fun j hj=>(by rcases Nat.lt_or_ge j i with h | h;exact he j h;obtain rfl:j=i:=(by omega);rw[hx,hy];congr 1;apply UInt8.toNat_inj.1;omega),rfl⟩
  ·intro h14;refine uO 8 ?_;intro a I;replace I:=I.kp [] rfl;refine rC 6 I ?_;clear I a;refine aS ?_;rw[decide_eq_true (wc (by omega) (fun j hj=>he j (by omega)))];exact⟨rfl,O⟩
theorem lb (W w:World)(L:List As)(A:Option Addr)(c:Nat)(bs:List UInt8)(B:Option Addr)(d:Nat)(b:List UInt8)(O:Sat W w (row 5 1 (.slice A (bs).length c) (bs).length ((bs).map ai)::L))(hY:∀w M,Sat W w (M++L)→Rd w 1 (.slice B b.length d) b.length (b.map ai))(hb:b.length≤100000000000)(hl:bs.length≤100000000000000):Calls Tryz.prog 185 #[.slice A (bs).length c,.slice B (b).length d] w fun e w'=>∃A' c',e=.returned (.slice A' (bs++fr b).length c')∧Sat W w' (row 5 1 (.slice A' (bs++fr b).length c') (bs++fr b).length ((bs++fr b).map ai)::L):=by
 refine bP Tryz.func185 [0,1] ?_;have h9:=bd (n:=b.length) (by omega);refine uC 8 ?_;refine u1 0 (ak rfl aW) ?_;refine uF rfl (qY _ b.length (by omega)) ?_;rintro e w ⟨A10,c10,rfl,hT⟩;replace O:=O.au hT;clear hT;refine uO 10 ?_;intro a I;refine wp_loop_ghost (fun (mm:Nat) a w=>∃(i:Nat) (out:List UInt8) (Ao:Option Addr) (co:Nat),Ag a 38 [(0,.slice Ao (out).length co),(1,.slice B (b).length d),(5,.slice A10 ((aE b.length)).length c10),(6,.int .i64 ((i:Nat):Int))]∧Sat W w (row 5 1 (.slice Ao (out).length co) (out).length ((out).map ai)::row 5 1 (.slice A10 ((aE b.length)).length c10) ((aE b.length)).length (((aE b.length)).map ai)::L)∧(i≤((aE b.length)).length)∧(out=bs++((aE b.length)).take i)∧(out.length=bs.length+i)∧mm=((aE b.length)).length-i) ((aE b.length)).length ?_ ?_
 ·replace I:=I.kp [0,1,5,6] rfl;exact⟨0,_,_,_,I,(O.p 1),(by omega),(by simp),(by omega),by omega⟩
 intro m a w hI;clear O I;obtain⟨i,out,Ao,co,I,O,hi,ho,hol,rfl⟩:=hI;refine rC 5 I ?_;clear I a;refine u1 0 (ak rfl aW) ?_;refine aK 0 0 (aq rfl rfl) ?_ ?_
 ·intro h14;refine uO 11 ?_;obtain⟨A10_p,rfl⟩:∃q,A10=some q:=(O.p 1).rd.ao (by omega);obtain⟨x,hx⟩:∃zz_,(aE b.length)[i]?=some zz_:=⟨_,List.getElem?_eq_getElem (by omega)⟩;refine u1 0 (ix rfl rfl aW mJ) ?_;refine u1 0 (aj rfl o0 (eO (O.p 1).rd (aV hx))) ?_;intro a I;refine nF I rfl rfl aW j5 rfl rfl rfl (by simp[Value.oneCell',ai]) O ?_;clear I a O;intro A22 w O;intro a I;refine dj I rfl rfl rfl aW j5 rfl (O.p 1) (O.rd.src aW (by simp[Value.oneCell',ai])) (by omega) (by omega) ?_;clear I a O;intro A23 c23 w hc23 O;refine uO 6 ?_;refine u1 2 (ad rfl rfl) ?_;intro a I;replace I:=I.kp [0,1,5,6] rfl;have e1:(out).map ai++[ai x]=(out++[x]).map ai:=by simp
  have e2:(out).length+1=(out++[x]).length:=by simp
  rw[e1,e2]at O;rw[e2]at I;clear e1 e2;refine⟨((aE b.length)).length-(i+1),by omega,i+1,out++[x],_,_,I,(O.p 1).drop,by omega,?_,by simp only[List.length_append,List.length_cons,List.length_nil];omega,rfl⟩;rw[ho,ay hx,List.append_assoc]
 ·intro h14;refine uO 15 ?_;intro a I;refine wp_loop_ghost (fun (mm:Nat) a w=>∃(j:Nat) (out:List UInt8) (Ao:Option Addr) (co:Nat),Ag a 38 [(0,.slice Ao (out).length co),(1,.slice B (b).length d),(7,.int .i64 ((j:Nat):Int))]∧Sat W w (row 5 1 (.slice Ao (out).length co) (out).length ((out).map ai)::row 5 1 (.slice A10 ((aE b.length)).length c10) ((aE b.length)).length (((aE b.length)).map ai)::L)∧(j≤b.length)∧(out=bs++((aE b.length)++b.take j))∧(out.length=bs.length+((aE b.length)).length+j)∧mm=b.length-j) b.length ?_ ?_
  ·replace I:=I.kp [0,1,7] rfl;exact⟨0,_,_,_,I,O,(by omega),(by rw[ho,List.take_of_length_le (by omega)];simp),(by omega),by omega⟩
  intro m a w hI;clear O I;obtain⟨j,out,Ao,co,I,O,hj,ho2,hol2,rfl⟩:=hI;refine rC 5 I ?_;clear I a;refine u1 0 (ak rfl aW) ?_;refine aK 0 0 (aq rfl rfl) ?_ ?_
  ·intro h27;refine uO 11 ?_;obtain⟨B_p,rfl⟩:∃q,B=some q:=(hY _ [_,_] O).ao (by omega);obtain⟨y,hy⟩:∃zz_,b[j]?=some zz_:=⟨_,List.getElem?_eq_getElem (by omega)⟩;refine u1 0 (ix rfl rfl aW mJ) ?_;refine u1 0 (aj rfl o0 (eO (hY _ [_,_] O) (aV hy))) ?_;intro a I;refine nF I rfl rfl aW j5 rfl rfl rfl (by simp[Value.oneCell',ai]) O ?_;clear I a O;intro A35 w O;intro a I;refine dj I rfl rfl rfl aW j5 rfl (O.p 1) (O.rd.src aW (by simp[Value.oneCell',ai])) (by omega) (by omega) ?_;clear I a O;intro A36 c36 w hc36 O;refine uO 6 ?_;refine u1 2 (ad rfl rfl) ?_;intro a I;replace I:=I.kp [0,1,7] rfl;have e1:(out).map ai++[ai y]=(out++[y]).map ai:=by simp
   have e2:(out).length+1=(out++[y]).length:=by simp
   rw[e1,e2]at O;rw[e2]at I;clear e1 e2;refine⟨b.length-(j+1),by omega,j+1,out++[y],_,_,I,(O.p 1).drop,by omega,?_,by simp only[List.length_append,List.length_cons,List.length_nil];omega,rfl⟩;rw[ho2,ay hy];simp only[List.append_assoc]
  ·intro h27;refine uO 8 ?_;intro a I;replace I:=I.kp [0] rfl;refine rC 7 I ?_;clear I a;refine aS ?_;obtain rfl:j=b.length:=by omega
   rw[List.take_length]at ho2;have ho2:out=bs++fr b:=ho2;subst ho2;exact⟨_,_,rfl,(O.p 1).drop⟩
theorem oC {W w:World}{L:List As}:∀ {M:List As},Sat W w (M++L)→Sat W w L
 | [],h=>h
 | _::_,h=>oC (Sat.drop h)
theorem rj (W:World)(k:Nat)(ea:Option Addr)(ec:Nat)(es:List aR)(p:PL)(ra:Option Addr)(rc:Nat)(rs:List RL)(hk:k≤2)(he:fK W ea ec es)(hpp:p.ok W)(hrt:fG W ra rc rs)(hre:∀r∈rs,r.p.ok W)(hel:es.length≤16777216)(hpv:p.d.vec.length≤1000000000000)(hpc:p.d.ab.length≤16777216)(hrv:∀r∈rs,r.p.d.vec.length≤1000000000000)(hrs:cO (rs.map fun r=>r.p.d)≤16777216)(hE1:cd es=true)(hE2:bJ p.d=true)(hE3:cC (rs.map RL.d)=true):Calls Tryz.prog 142 #[.int .u8 (k:Int),.slice ea (es).length ec,.agg #[.slice p.va p.d.vec.length p.vc,.slice p.ca p.d.ab.length p.cc],.slice ra (rs).length rc] W fun e w'=>∃A' c',e=.returned (.slice A' (cq k ⟨es,p.d,rs.map RL.d⟩).length c')∧Sat W w' [row 5 1 (.slice A' (cq k ⟨es,p.d,rs.map RL.d⟩).length c') (cq k ⟨es,p.d,rs.map RL.d⟩).length ((cq k ⟨es,p.d,rs.map RL.d⟩).map ai)]:=by
 refine bP Tryz.func142 [0,1,2,3] ?_;have O:=Sat.start W;have hk1:=kR (i7 hE1) (by omega);have hk2:=mB (fw.1 hE2).toAD (by omega);have hk3:=kT (fA hE3) (by rw[gI];omega);intro a I;rw[gI]at hk3;have hk4:=nine (n:=(cI es).length) (by omega);have hk5:=nine (n:=(cB p.d).length) (by omega);refine rC 2 I ?_;clear I a;refine uB rfl O ?_;clear O;intro b6 w O;refine uO 6 ?_;refine uF rfl (sU _ ea ec es (he.sat O) (by omega)) ?_;rintro e w ⟨A18,c18,he,hT⟩;simp only[hE1,if_true]at he hT;subst he;replace O:=O.au hT;clear hT;refine uO 1 ?_;refine u1 0 (an rfl rfl) ?_;refine u1 6 (an rfl rfl) ?_;refine u1 0 (lS (cs:=[_,_]) rfl) ?_;refine uF rfl (sV _ p (hpp.sat O) hpv (by omega)) ?_;rintro e w ⟨A23,c23,he,hT⟩;simp only[hE2,if_true]at he hT;subst he;replace O:=O.au hT;clear hT
 refine uO 1 ?_;refine u1 0 (an rfl rfl) ?_;refine u1 7 (an rfl rfl) ?_;refine uF rfl (sQ _ ra rc rs (hrt.sat O) (fun r h=>(hre r h).sat O) ((eQ hrv hrs).mono (by decide)) (by omega)) ?_;rintro e w ⟨A28,c28,he,hT⟩;simp only[hE3,if_true]at he hT;subst he;replace O:=O.au hT;clear hT;refine uO 1 ?_;refine u1 0 (an rfl rfl) ?_;refine u1 7 (an rfl rfl) ?_;intro a I;refine nF I rfl rfl aW j5 rfl rfl rfl (by simp[Value.oneCell']) O ?_;clear I a O;intro A32 w O;intro a I;rw[show Value.int .u8 (k:Int)=ai (UInt8.ofNat k) from ln (by omega)]at O;change Sat W w (row 5 1 (.slice A32 ([UInt8.ofNat k]).length 1) ([UInt8.ofNat k]).length (([UInt8.ofNat k]).map ai)::_) at O;have hnk:aE k=[UInt8.ofNat k]:=fx (by omega);refine rO 3 I ?_;clear I a;intro a I;replace I:=I.kp [8,9,11,13,15] rfl;refine rC 4 I ?_;clear I a
 refine uF rfl (lb _ _ _ A32 1 [UInt8.ofNat k] A18 c18 (cI es) O (fun w M s=>((oC s).p 2).rd) (by omega) (by simp only[fr,List.length_append,List.length_cons,List.length_nil];omega)) ?_;clear O;rintro e w ⟨Af0,cf0,rfl,O⟩;refine uO 7 ?_;refine uF rfl (lb _ _ _ _ _ _ A23 c23 (cB p.d) O (fun w M s=>((oC s).p 1).rd) (by omega) (by simp only[fr,List.length_append,List.length_cons,List.length_nil];omega)) ?_;clear O;rintro e w ⟨Af1,cf1,rfl,O⟩;refine uO 7 ?_;refine uF rfl (lb _ _ _ _ _ _ A28 c28 (bV (rs.map RL.d)) O (fun w M s=>(oC s).rd) (by omega) (by simp only[fr,List.length_append,List.length_cons,List.length_nil];omega)) ?_;clear O;rintro e w ⟨Af2,cf2,rfl,O⟩;refine uO 4 ?_;refine aS ?_
 have ho:([UInt8.ofNat k]:List UInt8)++fr (cI es)++fr (cB p.d)++fr (bV (rs.map RL.d))=cq k ⟨es,p.d,rs.map RL.d⟩:=by unfold cq;rw[hnk];simp only[List.append_assoc]
 rw[ho]at O ⊢;exact⟨_,_,rfl,bY O⟩
theorem re (W:World)(s:SL)(hp:s.ok W)(hs:j0 s):Calls Tryz.prog 86 #[.agg #[.slice s.e.a s.e.es.length s.e.c,.slice s.p.va s.p.d.vec.length s.p.vc,.slice s.p.ca s.p.d.ab.length s.p.cc,.slice s.r.a s.r.rs.length s.r.c]] W fun e w'=>∃A' c',e=.returned (.tuple #[.slice A' (dR aB 1 s.d).length c',.int .i64 (pg aB s.d)])∧Sat W w' [row 5 1 (.slice A' (dR aB 1 s.d).length c') (dR aB 1 s.d).length ((dR aB 1 s.d).map ai)]:=by
 refine bP Tryz.func86 [0] ?_;have O:=Sat.start W;obtain⟨⟨ea,ec,es⟩,p,⟨ra,rc,rs⟩⟩:=s;have he:fK W ea ec es:=hp.e;have hpp:p.ok W:=hp.p;have hrt:fG W ra rc rs:=hp.r.top;have hre:∀r∈rs,r.p.ok W:=hp.r.each;have hel:es.length≤16777216:=hs.es;have hpv:p.d.vec.length≤1000000000000:=hs.pv;have hpc:p.d.ab.length≤16777216:=hs.pc;have hrs:cO (rs.map fun r=>r.p.d)≤16777216:=hs.rs;have hrb:dy 10000000000 rs:=(eQ hs.rv hrs).mono (by decide);have hrl:=jh hrs;refine uC 2 ?_;refine uB rfl O ?_;clear O;intro b1 w O;refine uO 7 ?_;refine u1 0 (lS (cs:=[_,_,_,_]) rfl) ?_;refine uF rfl (vQ _ ⟨⟨ea,ec,es⟩,p,⟨ra,rc,rs⟩⟩ (hp.sat O) hs) ?_;rintro e w ⟨rfl,hT⟩;replace O:Sat _ _ _:=O.ag hT;clear hT;cases h5:aB (SL.d ⟨⟨ea,ec,es⟩,p,⟨ra,rc,rs⟩⟩)
 ·rw[if_neg (by decide)];refine aK 0 0 (aG rfl rfl) ?_ ?_
  ·intro h6;refine uO 11 ?_;refine ft ?_;rw[fH h5,jE h5];exact⟨none,0,rfl,bY (O.aX 5 1)⟩
  ·intro h6;intro a I;contradiction
 ·rw[if_pos rfl];refine aK 0 0 (aG rfl rfl) ?_ ?_
  ·intro h6;intro a I;contradiction
  ·intro h6;refine uO 7 ?_;refine u1 0 (aa rfl rq) ?_;refine u1 0 (ld rfl) ?_;refine u1 0 (aa rfl sh) ?_;refine u1 0 (lS (cs:=[_,_]) rfl) ?_;refine u1 0 (aa rfl r8) ?_;refine u1 0 (ld rfl) ?_;refine uF rfl (rj _ 1 ea ec es p ra rc rs (by decide) (he.sat O) (hpp.sat O) (hrt.sat O) (fun r h=>(hre r h).sat O) hel hpv hpc hs.rv hrs (a7 h5).1 (a7 h5).2.1 (a7 h5).2.2) ?_;rintro e w ⟨A13,c13,rfl,hT⟩;replace O:=O.au hT;clear hT;refine uO 5 ?_;refine ft ?_;rw[eJ h5,ir h5];exact⟨A13,c13,rfl,bY O⟩
theorem rp (W:World)(s:SL)(hp:s.ok W)(hs:j0 s):Calls Tryz.prog 87 #[.agg #[.slice s.e.a s.e.es.length s.e.c,.slice s.p.va s.p.d.vec.length s.p.vc,.slice s.p.ca s.p.d.ab.length s.p.cc,.slice s.r.a s.r.rs.length s.r.c]] W fun e w'=>∃A' c',e=.returned (.tuple #[.slice A' (dR bz 2 s.d).length c',.int .i64 (pg bz s.d)])∧Sat W w' [row 5 1 (.slice A' (dR bz 2 s.d).length c') (dR bz 2 s.d).length ((dR bz 2 s.d).map ai)]:=by
 refine bP Tryz.func87 [0] ?_;have O:=Sat.start W;obtain⟨⟨ea,ec,es⟩,p,⟨ra,rc,rs⟩⟩:=s;have he:fK W ea ec es:=hp.e;have hpp:p.ok W:=hp.p;have hrt:fG W ra rc rs:=hp.r.top;have hre:∀r∈rs,r.p.ok W:=hp.r.each;have hel:es.length≤16777216:=hs.es;have hpv:p.d.vec.length≤1000000000000:=hs.pv;have hpc:p.d.ab.length≤16777216:=hs.pc;have hrs:cO (rs.map fun r=>r.p.d)≤16777216:=hs.rs;have hrb:dy 10000000000 rs:=(eQ hs.rv hrs).mono (by decide);have hrl:=jh hrs;refine uC 2 ?_;refine uB rfl O ?_;clear O;intro b1 w O;refine uO 7 ?_;refine u1 0 (lS (cs:=[_,_,_,_]) rfl) ?_;refine uF rfl (vZ _ ⟨⟨ea,ec,es⟩,p,⟨ra,rc,rs⟩⟩ (hp.sat O) hs) ?_;rintro e w ⟨rfl,hT⟩;replace O:Sat _ _ _:=O.ag hT;clear hT;cases h5:bz (SL.d ⟨⟨ea,ec,es⟩,p,⟨ra,rc,rs⟩⟩)
 ·rw[if_neg (by decide)];refine aK 0 0 (aG rfl rfl) ?_ ?_
  ·intro h6;refine uO 11 ?_;refine ft ?_;rw[fH h5,jE h5];exact⟨none,0,rfl,bY (O.aX 5 1)⟩
  ·intro h6;intro a I;contradiction
 ·rw[if_pos rfl];have hFf:=dZ h5;refine aK 0 0 (aG rfl rfl) ?_ ?_
  ·intro h6;intro a I;contradiction
  ·intro h6;refine uO 7 ?_;refine u1 0 (aa rfl jU) ?_;refine u1 0 (ld rfl) ?_;refine u1 0 (aa rfl lX) ?_;refine u1 0 (lS (cs:=[_,_]) rfl) ?_;refine u1 0 (aa rfl j3) ?_;refine u1 0 (ld rfl) ?_;refine uF rfl (rj _ 2 ea ec es p ra rc rs (by decide) (he.sat O) (hpp.sat O) (hrt.sat O) (fun r h=>(hre r h).sat O) hel hpv hpc hs.rv hrs (a7 hFf).1 (a7 hFf).2.1 (a7 hFf).2.2) ?_;rintro e w ⟨A13,c13,rfl,hT⟩;replace O:=O.au hT;clear hT;refine uO 5 ?_;refine ft ?_;rw[eJ h5,ir h5];exact⟨A13,c13,rfl,bY O⟩
structure nJ where
 ba:Int
 st:iW
structure dB where
 self:Int
 next:Int
 hs:List nJ
def o6 (k:Nat)(h:nJ):List UInt8:=aE h.ba.toNat++fr (cq k h.st)
def bg (k:Nat)(hs:List nJ):List UInt8:=hs.flatMap (o6 k)
def dv (s n c:Nat):List UInt8:=aE 3++(aE s++(aE n++aE c))
def dn (k:Nat)(d:dB):List UInt8:=dv d.self.toNat d.next.toNat d.hs.length++bg k d.hs
def bh (k:Nat)(d:dB):List UInt8:=dg (dn k d)
def cK (p:Option nJ)(h:nJ):Bool:=(decide (0≤h.ba) && decide (h.ba<64)) && match p with
 | none=>true
 | some q=>decide (q.ba<h.ba)
def GY (d:dB):Bool:=(decide (0≤d.self) && decide (d.self<16)) && (decide (0≤d.next) && decide (d.next≤4611686018427387904))
def kb (d:dB):Bool:=GY d && kz cK none d.hs
def iV (f:iW→Bool)(d:dB):Bool:=kb d && d.hs.all fun h=>f h.st
def nD (k:Nat)(f:iW→Bool)(bs:List UInt8):Prop:=∀d:dB,iV f d=true→bs≠bh k d
theorem lg {a b:Nat}{r r':List UInt8}(ha:a≤9223372036854775807)(hb:b≤9223372036854775807)(h:aE a++r=aE b++r'):a=b∧r=r':=by
 have h1:=(bD (most:=9223372036854775807) (l:=aE a++r) (v:=a) (r:=r)).2 ⟨rfl,by omega,ha⟩;have h2:=(bD (most:=9223372036854775807) (l:=aE b++r') (v:=b) (r:=r')).2 ⟨rfl,by omega,hb⟩;rw[h,h2]at h1
 injection h1 with h1
 obtain⟨e1,e2⟩:=Prod.mk.inj h1;exact⟨e1.symm,e2.symm⟩
theorem G8 {a b r r':List UInt8}(ha:a.length≤9223372036854775807)(hb:b.length≤9223372036854775807)(h:fr a++r=fr b++r'):a=b∧r=r':=by
 unfold fr at h;rw[List.append_assoc,List.append_assoc]at h;obtain⟨h1,h2⟩:=lg ha hb h;exact List.append_inj h2 h1
theorem jK (k:Nat)(h:nJ)(hs:List nJ):bg k (h::hs)=o6 k h++bg k hs:=rfl
theorem o9 (k:Nat)(a b:List nJ):bg k (a++b)=bg k a++bg k b:=by unfold bg;simp
theorem Jc (b:List UInt8):b.length<(fr b).length:=by
 unfold fr;have:=cm b.length;rw[List.length_append];omega
theorem vr (k:Nat)(h:nJ):(cq k h.st).length+2≤(o6 k h).length:=by
 unfold o6;have:=cm h.ba.toNat;have:=Jc (cq k h.st);rw[List.length_append];omega
theorem oU (k:Nat):∀hs:List nJ,hs.length * 2≤(bg k hs).length
 | []=>Nat.le_refl 0
 | h :: hs => by
   have:=oU k hs;have:=vr k h;rw[jK,List.length_append,List.length_cons];omega
theorem oh {k:Nat}{f:iW→Bool}(hk:k≤2)(hf:∀d,f d=true→aB d=true):∀(xs ys:List nJ) (rest:List UInt8),(∀x∈xs,0≤x.ba∧x.ba<9223372036854775808∧f x.st=true)→(∀y∈ys,0≤y.ba∧y.ba<9223372036854775808∧f y.st=true)→xs.length≤ys.length→(bg k ys).length≤9223372036854775807→
 bg k ys=bg k xs++rest→∃zs,ys=xs++zs∧rest=bg k zs
 | [],ys,rest,_,_,_,_,h=>⟨ys,rfl,by rw[h];rfl⟩
 | x::xs,[],rest,_,_,h,_,_=>by simp at h
 | x :: xs, y :: ys, rest, hx, hy, hl, hL, h => by
   obtain⟨hx0,hx1,hx2⟩:=hx x (by simp);obtain⟨hy0,hy1,hy2⟩:=hy y (by simp);rw[jK,jK]at h;have hL':=hL;rw[jK,List.length_append]at hL;have hgy:=vr k y
   have hlx:(o6 k x).length≤9223372036854775807:=by
    have:=congrArg List.length h;simp only[List.length_append]at this;omega
   have hgx:=vr k x;unfold o6 at h;simp only[List.append_assoc]at h;obtain⟨h1,h2⟩:=lg (by omega) (by omega) h;obtain⟨h3,h4⟩:=G8 (by omega) (by omega) h2;have h5:=tT hk (hf _ hy2) (hf _ hx2) (by omega) h3;obtain⟨zs,h6,h7⟩:=oh hk hf xs ys rest (fun z hz=>hx z (by simp[hz])) (fun z hz=>hy z (by simp[hz])) (by simpa using hl) (by omega) h4;refine⟨zs,?_,h7⟩;have:y=x:=by cases x;cases y;simp only at h1 h5 hx0 hy0;subst h5;congr 1;omega
   rw[h6,this];rfl
theorem cT {d:dB}(h:kb d=true):0≤d.self∧d.self<16∧0≤d.next∧d.next≤4611686018427387904∧kz cK none d.hs=true:=by
 unfold kb GY at h;simp only[Bool.and_eq_true,decide_eq_true_eq]at h;exact⟨h.1.1.1,h.1.1.2,h.1.2.1,h.1.2.2,h.2⟩
theorem fE {f:iW→Bool}{d:dB}(h:iV f d=true):kb d=true:=by
 unfold iV at h;rw[Bool.and_eq_true]at h;exact h.1
theorem s4 {f:iW→Bool}{d:dB}(h:iV f d=true):∀x∈d.hs,f x.st=true:=by
 unfold iV at h;rw[Bool.and_eq_true,List.all_eq_true]at h;exact h.2
theorem mT {hs:List nJ}(h:kz cK none hs=true):∀x∈hs,0≤x.ba∧x.ba<64:=fun x hx=>by
 obtain⟨i,hi⟩:=List.mem_iff_getElem?.1 hx;have:=lH h i x hi;unfold cK at this;simp only[Bool.and_eq_true,decide_eq_true_eq]at this;exact this.1
theorem vu {f:iW→Bool}{d:dB}(h:iV f d=true):∀x∈d.hs,0≤x.ba∧x.ba<9223372036854775808∧f x.st=true:=fun x hx=>by
 obtain⟨h1,h2⟩:=mT (cT (fE h)).2.2.2.2 x hx;exact⟨h1,by omega,s4 h x hx⟩
theorem gK (b:List UInt8):(dg b).length=b.length+8:=by unfold dg cn;simp
theorem oL (b:List UInt8):(dg b).take ((dg b).length-8)=b:=by
 rw[gK,Nat.add_sub_cancel];unfold dg;rw[List.take_left]
theorem Fc {a b:List UInt8}(h:dg a=dg b):a=b:=by
 rw[←oL a,h,oL]
def ku (bs:List UInt8):Prop:=8≤bs.length∧bs=dg (bs.take (bs.length-8))
theorem CA (b:List UInt8):ku (dg b):=⟨by rw[gK];omega,by rw[oL]⟩
theorem iR {k:Nat}{f:iW→Bool}{bs:List UInt8}(h:¬ku bs):nD k f bs:=fun d _ e=>h (by rw[e];exact CA _)
theorem jc {k:Nat}{f:iW→Bool}{bs body:List UInt8}(hb:body=bs.take (bs.length-8))(h:∀d,iV f d=true→body≠dn k d):nD k f bs:=fun d hd e=>h d hd (by rw[hb,e];exact oL _)
theorem yV {s n c s' n' c':Nat}{r r':List UInt8}(h1:s≤9223372036854775807)(h2:n≤9223372036854775807)(h3:c≤9223372036854775807)(h1':s'≤9223372036854775807)(h2':n'≤9223372036854775807)(h3':c'≤9223372036854775807)(h:dv s n c++r=dv s' n' c'++r'):s=s'∧n=n'∧c=c'∧r=r':=by
 unfold dv at h;simp only[List.append_assoc]at h;obtain⟨_,h⟩:=lg (by omega) (by omega) h;obtain⟨e1,h⟩:=lg h1 h1' h;obtain⟨e2,h⟩:=lg h2 h2' h;obtain⟨e3,h⟩:=lg h3 h3' h;exact⟨e1,e2,e3,h⟩
theorem Fq {k:Nat}{f:iW→Bool}(hk:k≤2)(hf:∀d,f d=true→aB d=true){d d':dB}{r:List UInt8}(hd:iV f d=true)(hd':iV f d'=true)(hL:(dn k d).length≤9223372036854775807)(h:dn k d=dn k d'++r):d=d'∧r=[]:=by
 obtain⟨a1,a2,a3,a4,_⟩:=cT (fE hd);obtain⟨b1,b2,b3,b4,_⟩:=cT (fE hd');have hl:d.hs.length * 2≤(dn k d).length:=by unfold dn;rw[List.length_append];have:=oU k d.hs;omega
 have hl':d'.hs.length * 2≤(dn k d).length:=by rw[h];unfold dn;simp only[List.length_append];have:=oU k d'.hs;omega
 have hl2:(bg k d.hs).length≤(dn k d).length:=by unfold dn;rw[List.length_append];omega
 unfold dn at h;rw[List.append_assoc]at h;obtain⟨e1,e2,e3,h⟩:=yV (by omega) (by omega) (by omega) (by omega) (by omega) (by omega) h;obtain⟨zs,h6,h7⟩:=oh hk hf d'.hs d.hs r (vu hd') (vu hd) (by omega) (by omega) h
 have hz:zs=[]:=by
  have:=congrArg List.length h6;rw[List.length_append]at this;exact List.eq_nil_of_length_eq_zero (by omega)
 subst hz;refine⟨?_,h7⟩;rw[List.append_nil]at h6;cases d;cases d';simp only at h6 e1 e2 a1 a3 b1 b3;subst h6
 congr 1<;>omega
theorem Bx {k:Nat}{f:iW→Bool}(hk:k≤2)(hf:∀d,f d=true→aB d=true){d d':dB}(hd:iV f d=true)(hd':iV f d'=true)(hL:(bh k d).length≤9223372036854775807)(h:bh k d=bh k d'):d=d':=by
 unfold bh at h hL;rw[gK]at hL;exact (Fq hk hf (r:=[]) hd hd' (by omega) (by rw[List.append_nil];exact Fc h)).1
def o2:List UInt8→Nat
 | []=>0
 | c::t=>c.toNat+o2 t
def rR:List UInt8→Nat
 | []=>0
 | c::t=>(t.length+1) * c.toNat+rR t
theorem v7:∀(l:List UInt8) (x y:Nat),l.foldl (fun s b=>((s.1+b.toNat) % 4294967296,(s.2+(s.1+b.toNat) % 4294967296) % 4294967296)) (x % 4294967296,y % 4294967296)=((x+o2 l) % 4294967296,(y+l.length * x+rR l) % 4294967296)
 | [],x,y=>by simp[o2,rR]
 | c :: t, x, y => by
   rw[List.foldl_cons];have h:=v7 t (x+c.toNat) (y+(x+c.toNat));have e1:((x % 4294967296,y % 4294967296).1+c.toNat) % 4294967296=(x+c.toNat) % 4294967296:=by simp only;omega
   have e2:((x % 4294967296,y % 4294967296).2+(x+c.toNat) % 4294967296) % 4294967296=(y+(x+c.toNat)) % 4294967296:=by simp only;omega
   rw[e1,e2,h];rw[show o2 (c::t)=c.toNat+o2 t from rfl,show rR (c::t)=(t.length+1) * c.toNat+rR t from rfl,List.length_cons,Nat.mul_add,Nat.add_mul,Nat.add_mul,Nat.one_mul,Nat.one_mul]
   congr 2<;>omega
theorem sZ (l:List UInt8):aU l=(o2 l % 4294967296,rR l % 4294967296):=by
 have h:=v7 l 0 0;simp only[Nat.zero_add,Nat.mul_zero,Nat.zero_mod]at h;exact h
theorem E9 (a l:List UInt8):o2 (a++l)=o2 a+o2 l:=by
 induction a with
 | nil=>simp[o2]
 | cons c t ih=>rw[List.cons_append,o2,o2,ih];omega
theorem EJ (a l:List UInt8):rR (a++l)=rR a+l.length * o2 a+rR l:=by
 induction a with
 | nil=>simp[rR,o2]
 | cons c t ih =>
   rw[List.cons_append,rR,rR,o2,ih,List.length_append,Nat.mul_add];have:(t.length+l.length+1) * c.toNat=(t.length+1) * c.toNat+l.length * c.toNat:=by rw[←Nat.add_mul];congr 1;omega
   omega
theorem CD {a t:List UInt8}{b c:UInt8}(h:b≠c):(aU (a++b::t)).1≠(aU (a++c::t)).1:=by
 rw[sZ,sZ];simp only[E9,o2];have hb:=b.toNat_lt;have hc:=c.toNat_lt;have:b.toNat≠c.toNat:=fun e=>h (UInt8.toNat_inj.1 e)
 omega
theorem Cv {a t:List UInt8}{b c:UInt8}(h:b≠c):(aU (a++b::c::t)).2≠(aU (a++c::b::t)).2:=by
 rw[sZ,sZ];simp only[EJ,rR,List.length_cons];have hb:=b.toNat_lt;have hc:=c.toNat_lt;have:b.toNat≠c.toNat:=fun e=>h (UInt8.toNat_inj.1 e)
 have e1:(t.length+1+1) * b.toNat=(t.length+1) * b.toNat+b.toNat:=by rw[Nat.add_mul];omega
 have e2:(t.length+1+1) * c.toNat=(t.length+1) * c.toNat+c.toNat:=by rw[Nat.add_mul];omega
 rw[e1,e2];omega
theorem eI (n:Nat):(cn n).length=4:=rfl
theorem wS {n m:Nat}(hn:n<4294967296)(hm:m<4294967296)(h:cn n=cn m):n=m:=by
 unfold cn at h
 injection h with h1 h
 injection h with h2 h
 injection h with h3 h
 injection h with h4 _
 have g1:=congrArg UInt8.toNat h1;have g2:=congrArg UInt8.toNat h2;have g3:=congrArg UInt8.toNat h3;have g4:=congrArg UInt8.toNat h4;simp only[UInt8.toNat_ofNat']at g1 g2 g3 g4;omega
theorem py {b b':List UInt8}(hl:b'.length=b.length)(h:(aU b').1≠(aU b).1∨(aU b').2≠(aU b).2):¬ku (b'++(cn (aU b).1++cn (aU b).2)):=by
 rintro ⟨_,h2⟩
 have ht:(b'++(cn (aU b).1++cn (aU b).2)).take ((b'++(cn (aU b).1++cn (aU b).2)).length-8)=b':=by
  rw[List.length_append,List.length_append,eI,eI,show b'.length+(4+4)-8=b'.length from by omega,List.take_left]
 rw[ht]at h2;unfold dg at h2;have h3:=List.append_cancel_left h2;obtain⟨h4,h5⟩:=List.append_inj h3 rfl;have l:=kl b;have l':=kl b';have e1:=wS l.1 l'.1 h4;have e2:=wS l.2 l'.2 h5;rcases h with h | h
 ·
  exact h e1.symm
 ·
  exact h e2.symm
theorem pf {b x:List UInt8}(h:x.length=8)(hne:b++x≠dg b):¬ku (b++x):=by
 rintro ⟨_,h2⟩;have ht:(b++x).take ((b++x).length-8)=b:=by rw[List.length_append,h,Nat.add_sub_cancel,List.take_left]
 rw[ht]at h2;exact hne h2
theorem oN {l:List UInt8}{i:Nat}{x:UInt8}(h:l[i]?=some x)(c:UInt8):l=l.take i++x::l.drop (i+1)∧l.set i c=l.take i++c::l.drop (i+1):=by
 obtain⟨hi,hx⟩:=List.getElem?_eq_some_iff.1 h;constructor
 ·
  rw[←hx,List.getElem_cons_drop,List.take_append_drop]
 ·
  rw[List.set_eq_take_append_cons_drop,if_pos hi]
theorem Fi {b:List UInt8}{i:Nat}{x c:UInt8}(h:(dg b)[i]?=some x)(hc:x≠c):¬ku ((dg b).set i c):=by
 have hi:=(List.getElem?_eq_some_iff.1 h).1;rw[gK]at hi;have hs:dg b=b++(cn (aU b).1++cn (aU b).2):=rfl;rcases Nat.lt_or_ge i b.length with hlt | hge
 ·
  rw[hs,List.getElem?_append_left hlt]at h;rw[hs,List.set_append_left _ _ hlt];refine py (by simp) (.inl ?_);obtain⟨e1,e2⟩:=oN h c;rw[e2]
  conv=>rhs;rw[e1]
  exact (CD hc).symm
 ·
  have hne:(dg b).set i c≠dg b:=fun e=>by
   have:=congrArg (fun l=>l[i]?) e;simp only[List.getElem?_set]at this;rw[if_pos trivial,if_pos (by rw[gK];exact hi),h]at this;exact hc (Option.some.inj this).symm
  rw[hs,List.set_append_right _ _ hge]at hne ⊢;exact pf (by rw[List.length_set,List.length_append,eI,eI]) hne
theorem D0 {b:List UInt8}{i:Nat}{x y:UInt8}(h:(dg b)[i]?=some x)(h':(dg b)[i+1]?=some y)(hc:x≠y)(hb:i+1≠b.length):¬ku (((dg b).set i y).set (i+1) x):=by
 have hi:=(List.getElem?_eq_some_iff.1 h).1;have hi':=(List.getElem?_eq_some_iff.1 h').1;rw[gK]at hi hi';have hs:dg b=b++(cn (aU b).1++cn (aU b).2):=rfl;rcases Nat.lt_or_ge (i+1) b.length with hlt | hge
 ·
  rw[hs,List.getElem?_append_left (by omega)]at h;rw[hs,List.getElem?_append_left hlt]at h';rw[hs,List.set_append_left _ _ (by omega),List.set_append_left _ _ (by rw[List.length_set];exact hlt)];refine py (by simp) (.inr ?_);obtain⟨e1,_⟩:=oN h y
  have e2:b.drop (i+1)=y::b.drop (i+1+1):=by
   obtain⟨hj,hy⟩:=List.getElem?_eq_some_iff.1 h';rw[←hy,List.getElem_cons_drop]
  have e3:(b.set i y).set (i+1) x=b.take i++y::x::b.drop (i+1+1):=by
   obtain⟨_,q⟩:=oN (l:=b.set i y) (i:=i+1) (x:=y) (by rw[List.getElem?_set_ne (by omega)];exact h') x;rw[q,List.drop_set_of_lt (by omega)]
   have:(b.set i y).take (i+1)=b.take i++[y]:=by
    obtain⟨_,q2⟩:=oN h y;rw[q2,List.take_append,List.take_of_length_le (by rw[List.length_take];omega),List.length_take,show i+1-min i b.length=1 from by omega];rfl
   rw[this,List.append_assoc];rfl
  rw[e3]
  conv=>rhs;rw[e1,e2]
  exact (Cv hc).symm
 ·
  have hge:b.length≤i:=by omega
  have hne:((dg b).set i y).set (i+1) x≠dg b:=fun e=>by
   have:=congrArg (fun l=>l[i]?) e;simp only[List.getElem?_set]at this;rw[if_neg (by omega),if_pos trivial,if_pos (by rw[gK];exact hi),h]at this;exact hc (Option.some.inj this).symm
  rw[hs,List.set_append_right _ _ hge,List.set_append_right _ _ (by omega)]at hne ⊢;exact pf (by rw[List.length_set,List.length_set,List.length_append,eI,eI]) hne
end Go.Proofs.YtkjabaihpkbfhaaGreat.Wk
namespace Go.Proofs.YtkjabaihpkbfhaaGreat.K
open Go Go.RowKit
section
variable {P:Program} {w:World} {ρ:Operand→Value} {d:Option Tmp} {ty t e:TypeId} {ps:String} {af:Array Edge} {g:Option (Nat×Bool)} {x y z u:Operand}
variable {A:Option Addr} {n c sz:Nat} {i j m:Int} {k k' k'':IntKind}
theorem AP (hx:ρ x=.slice A n c)(hw:ρ z=.int k' j)(hu:ρ u=.int k'' m)(ht:P.underlying t=some (.slice e))(hz:(P.info? e).map (·.size)=some sz)(h1:0≤j)(h2:j≤m)(h3:m≤c) :
 (execOp ρ ⟨d,.slice t x none (some z) (some u),ty,ps,af,g⟩).run P w=.ok (.value (.slice (i6 A m.toNat sz 0) j.toNat m.toNat)) w:=by
 obtain⟨q,hq,hqz⟩:=Option.map_eq_some_iff.1 hz;have hm0:0≤m:=by omega
 have h4:j.toNat≤m.toNat:=by omega
 have h6:j≤(m.toNat:Int):=by omega
 have h7:j≤max m 0:=by omega
 have h8:0≤max j 0:=by omega
 simp[h7,h8,i6,execOp,Instr.sliceAt,Instr.slice,Instr.sliceBounds,Instr.sliceBound,run_underlying ht,hx,hw,hu,asIntOf,hm0,h1,h2,h3,h6,sizeOf,typeInfo,hq,hqz,go_sem]
end
theorem Rd.first {w:World}{sz n c k:Nat}{A:Option Addr}{cs:List Value}(h:Rd w sz (.slice A n c) n cs)(hk:k≤n):Rd w sz (.slice A k k) k (cs.take (k * sz)):=by
 obtain⟨A',c',hv,hc,hl,h⟩:=h
 injection hv with h1 h2 h3
 subst h1 h3;refine⟨A,k,rfl,Nat.le_refl _,?_,?_⟩
 ·
  rw[List.length_take,hl];have:=Nat.mul_le_mul_right sz hk;omega
 ·
  rcases h with h | ⟨p,hp,hh⟩
  ·
   exact .inl (by omega)
  ·
   refine .inr ⟨p,hp,fun j u e=>hh j u ?_⟩;rw[List.getElem?_take]at e
   split at e
   ·
    exact e
   ·
    cases e
theorem j9 (m:Nat):Value.int .u8 (IntKind.u8.wrap (m:Int))=ai (UInt8.ofNat m):=by
 unfold ai;simp[IntKind.wrap,IntKind.bits,IntKind.signed,UInt8.toNat_ofNat']
theorem ia (n k:Nat)(hk:k≤64):((n:Nat):Int).fdiv (2 ^ (min ((k:Int)).toNat IntKind.i64.bits))=((n / 2 ^ k:Nat):Int):=by
 have:min ((k:Int)).toNat IntKind.i64.bits=k:=by simp[IntKind.bits];omega
 rw[this,Int.fdiv_eq_ediv_of_nonneg _ (by exact Int.le_of_lt (Int.pow_pos (by decide)))];rw[Int.natCast_ediv,Int.natCast_pow];rfl
end Go.Proofs.YtkjabaihpkbfhaaGreat.K
namespace Go.Proofs.YtkjabaihpkbfhaaGreat.Wk
open Go Go.RowKit Go.Proofs.YtkjabaihpkbfhaaGreat Go.Proofs.YtkjabaihpkbfhaaGreat.K Go.Proofs.YtkjabaihpkbfhaaGreat.T
theorem o4 (W w:World)(L:List As)(A:Option Addr)(c:Nat)(bs:List UInt8)(O:Sat W w (row 5 1 (.slice A (bs).length c) (bs).length ((bs).map ai)::L))(hl:bs.length≤1000000000000):Calls Tryz.prog 93 #[.slice A (bs).length c] w fun e w'=>∃A' c',e=.returned (.slice A' (dg bs).length c')∧Sat W w' (row 5 1 (.slice A' (dg bs).length c') (dg bs).length ((dg bs).map ai)::L):=by
 refine bP Tryz.func93 [0] ?_;have hsl:=kl bs;refine uC 8 ?_;refine uF rfl (tC _ A c bs O.rd (by omega)) ?_;rintro e w ⟨rfl,hT⟩;replace O:Sat _ _ _:=O.ag hT;clear hT;refine uO 1 ?_;refine u1 0 (an rfl rfl) ?_;refine u1 9 (an rfl rfl) ?_;intro a I;refine nF I rfl rfl aA jN rfl rfl rfl (by simp[Value.oneCell']) O ?_;clear I a O;intro A14 w O;refine u1 4 (ak rfl aA) ?_;intro a I;refine wp_loop_rounds 3 ?_;refine a8 ?_;refine rC 2 I ?_;clear I a;refine u1 10 (et (aq rfl rfl) (by omega)) ?_;obtain⟨A14_p,rfl⟩:∃q,A14=some q:=O.rd.ao (by omega)
 refine u1 0 (ix rfl rfl aA fO) ?_;refine u1 6 (aj rfl dE (eO O.rd (show ([Value.int .i64 (((aU bs).1:Nat):Int),Value.int .i64 (((aU bs).2:Nat):Int)]:List Value)[0]?=some (Value.int .i64 (((aU bs).1:Nat):Int)) from rfl))) ?_;refine u1 0 (aH (jY rfl rfl (by omega)) (show _=Value.int .i64 (((aU bs).1 / 16777216:Nat):Int) from congrArg (Value.int .i64) (ia ((aU bs).1) 24 (by decide)))) ?_;refine u1 1 (aH (eM rfl p3 oZ) (show _=ai (UInt8.ofNat ((aU bs).1 / 16777216)) from j9 _)) ?_;refine u1 0 (aH (jY rfl rfl (by omega)) (show _=Value.int .i64 (((aU bs).1 / 65536:Nat):Int) from congrArg (Value.int .i64) (ia ((aU bs).1) 16 (by decide)))) ?_;refine u1 1 (aH (eM rfl p3 oZ) (show _=ai (UInt8.ofNat ((aU bs).1 / 65536)) from j9 _)) ?_;refine u1 0 (aH (jY rfl rfl (by omega)) (show _=Value.int .i64 (((aU bs).1 / 256:Nat):Int) from congrArg (Value.int .i64) (ia ((aU bs).1) 8 (by decide)))) ?_;refine u1 1 (aH (eM rfl p3 oZ) (show _=ai (UInt8.ofNat ((aU bs).1 / 256)) from j9 _)) ?_;refine u1 0 (aH (eM rfl p3 oZ) (show _=ai (UInt8.ofNat ((aU bs).1)) from j9 _)) ?_
 intro a I;refine nF I rfl rfl aW j5 rfl rfl rfl (by simp[Value.oneCell',ai]) O ?_;clear I a O;intro A32 w O;intro a I;refine dj I rfl rfl rfl aW j5 rfl (O.p 2) (O.rd.src aW (by simp[Value.oneCell',ai])) (by omega) (by omega) ?_;clear I a O;intro A33 c33 w hc33 O;have e1:bs.map ai++[ai (UInt8.ofNat ((aU bs).1 / 16777216)),ai (UInt8.ofNat ((aU bs).1 / 65536)),ai (UInt8.ofNat ((aU bs).1 / 256)),ai (UInt8.ofNat ((aU bs).1))]=(bs++cn (aU bs).1).map ai:=by simp[cn]
 have e2:bs.length+4=(bs++cn (aU bs).1).length:=by simp[cn]
 intro a I;rw[e1,e2]at O;rw[e2]at I;clear e1 e2;refine rO 5 I ?_;clear I a;refine u1 2 (aH (ad rfl rfl) (show _=Value.int .i64 1 from rfl)) ?_;intro a I;refine a8 ?_;refine rC 2 I ?_;clear I a
 refine u1 10 (et (aq rfl rfl) (by omega)) ?_;refine u1 0 (ix rfl rfl aA fO) ?_;refine u1 6 (aj rfl dE (eO (O.p 2).rd (show ([Value.int .i64 (((aU bs).1:Nat):Int),Value.int .i64 (((aU bs).2:Nat):Int)]:List Value)[1]?=some (Value.int .i64 (((aU bs).2:Nat):Int)) from rfl))) ?_;refine u1 0 (aH (jY rfl rfl (by omega)) (show _=Value.int .i64 (((aU bs).2 / 16777216:Nat):Int) from congrArg (Value.int .i64) (ia ((aU bs).2) 24 (by decide)))) ?_;refine u1 1 (aH (eM rfl p3 oZ) (show _=ai (UInt8.ofNat ((aU bs).2 / 16777216)) from j9 _)) ?_;refine u1 0 (aH (jY rfl rfl (by omega)) (show _=Value.int .i64 (((aU bs).2 / 65536:Nat):Int) from congrArg (Value.int .i64) (ia ((aU bs).2) 16 (by decide)))) ?_;refine u1 1 (aH (eM rfl p3 oZ) (show _=ai (UInt8.ofNat ((aU bs).2 / 65536)) from j9 _)) ?_;refine u1 0 (aH (jY rfl rfl (by omega)) (show _=Value.int .i64 (((aU bs).2 / 256:Nat):Int) from congrArg (Value.int .i64) (ia ((aU bs).2) 8 (by decide)))) ?_;refine u1 1 (aH (eM rfl p3 oZ) (show _=ai (UInt8.ofNat ((aU bs).2 / 256)) from j9 _)) ?_;refine u1 0 (aH (eM rfl p3 oZ) (show _=ai (UInt8.ofNat ((aU bs).2)) from j9 _)) ?_
 intro a I;refine nF I rfl rfl aW j5 rfl rfl rfl (by simp[Value.oneCell',ai]) O ?_;clear I a O;intro A32 w O;intro a I;refine dj I rfl rfl rfl aW j5 rfl (O.p 1) (O.rd.src aW (by simp[Value.oneCell',ai])) (by simp only[List.length_append,eI];omega) (by simp only[List.length_append,eI];omega) ?_;clear I a O;intro A33 c33 w hc33 O;have e1:(bs++cn (aU bs).1).map ai++[ai (UInt8.ofNat ((aU bs).2 / 16777216)),ai (UInt8.ofNat ((aU bs).2 / 65536)),ai (UInt8.ofNat ((aU bs).2 / 256)),ai (UInt8.ofNat ((aU bs).2))]=((bs++cn (aU bs).1)++cn (aU bs).2).map ai:=by simp[cn]
 have e2:(bs++cn (aU bs).1).length+4=((bs++cn (aU bs).1)++cn (aU bs).2).length:=by simp[cn]
 intro a I;rw[e1,e2]at O;rw[e2]at I;clear e1 e2;refine rO 5 I ?_;clear I a;refine u1 2 (aH (ad rfl rfl) (show _=Value.int .i64 2 from rfl)) ?_;intro a I;refine a8 ?_;refine rC 2 I ?_;clear I a;refine u1 9 (dY (aq rfl rfl) (by omega)) ?_;intro a I;replace I:=I.kp [0,2] rfl;refine rC 7 I ?_;clear I a;refine aS ?_;have ho:(bs++cn (aU bs).1)++cn (aU bs).2=dg bs:=by unfold dg;rw[List.append_assoc]
 rw[ho]at O ⊢;exact⟨_,_,rfl,(((O.p 1).drop.p 1).drop.p 1).drop⟩
theorem vC (W:World)(p:Addr)(bs:List UInt8)(hR:Rd W 1 (.slice (some p) bs.length bs.length) bs.length (bs.map ai))(hl:bs.length≤1000000000000):Calls Tryz.prog 93 #[.slice (some p) bs.length bs.length] W fun e w'=>∃A' c',e=.returned (.slice A' (dg bs).length c')∧Sat W w' [row 5 1 (.slice A' (dg bs).length c') (dg bs).length ((dg bs).map ai)]:=by
 refine bP Tryz.func93 [0] ?_;have O:=Sat.start W;have hsl:=kl bs;refine uC 8 ?_;refine uF rfl (tC _ (some p) bs.length bs (hR.sat O) (by omega)) ?_;rintro e w ⟨rfl,hT⟩;replace O:Sat _ _ _:=O.ag hT;clear hT;refine uO 1 ?_;refine u1 0 (an rfl rfl) ?_;refine u1 9 (an rfl rfl) ?_;intro a I;refine nF I rfl rfl aA jN rfl rfl rfl (by simp[Value.oneCell']) O ?_;clear I a O;intro A14 w O;refine u1 4 (ak rfl aA) ?_;intro a I;refine wp_loop_rounds 3 ?_;refine a8 ?_;refine rC 2 I ?_;clear I a;refine u1 10 (et (aq rfl rfl) (by omega)) ?_;obtain⟨A14_p,rfl⟩:∃q,A14=some q:=O.rd.ao (by omega)
 refine u1 0 (ix rfl rfl aA fO) ?_;refine u1 6 (aj rfl dE (eO O.rd (show ([Value.int .i64 (((aU bs).1:Nat):Int),Value.int .i64 (((aU bs).2:Nat):Int)]:List Value)[0]?=some (Value.int .i64 (((aU bs).1:Nat):Int)) from rfl))) ?_;refine u1 0 (aH (jY rfl rfl (by omega)) (show _=Value.int .i64 (((aU bs).1 / 16777216:Nat):Int) from congrArg (Value.int .i64) (ia ((aU bs).1) 24 (by decide)))) ?_;refine u1 1 (aH (eM rfl p3 oZ) (show _=ai (UInt8.ofNat ((aU bs).1 / 16777216)) from j9 _)) ?_;refine u1 0 (aH (jY rfl rfl (by omega)) (show _=Value.int .i64 (((aU bs).1 / 65536:Nat):Int) from congrArg (Value.int .i64) (ia ((aU bs).1) 16 (by decide)))) ?_;refine u1 1 (aH (eM rfl p3 oZ) (show _=ai (UInt8.ofNat ((aU bs).1 / 65536)) from j9 _)) ?_;refine u1 0 (aH (jY rfl rfl (by omega)) (show _=Value.int .i64 (((aU bs).1 / 256:Nat):Int) from congrArg (Value.int .i64) (ia ((aU bs).1) 8 (by decide)))) ?_;refine u1 1 (aH (eM rfl p3 oZ) (show _=ai (UInt8.ofNat ((aU bs).1 / 256)) from j9 _)) ?_;refine u1 0 (aH (eM rfl p3 oZ) (show _=ai (UInt8.ofNat ((aU bs).1)) from j9 _)) ?_
 intro a I;refine nF I rfl rfl aW j5 rfl rfl rfl (by simp[Value.oneCell',ai]) O ?_;clear I a O;intro A32 w O;intro a I;refine JH I rfl rfl rfl aW j5 rfl O (hR.sat O) (O.rd.src aW (by simp[Value.oneCell',ai])) (by omega) (by omega) (by omega) ?_;clear I a O;intro A33 c33 w hc33 O;have e1:bs.map ai++[ai (UInt8.ofNat ((aU bs).1 / 16777216)),ai (UInt8.ofNat ((aU bs).1 / 65536)),ai (UInt8.ofNat ((aU bs).1 / 256)),ai (UInt8.ofNat ((aU bs).1))]=(bs++cn (aU bs).1).map ai:=by simp[cn]
 have e2:bs.length+4=(bs++cn (aU bs).1).length:=by simp[cn]
 intro a I;rw[e1,e2]at O;rw[e2]at I;clear e1 e2;refine rO 5 I ?_;clear I a;refine u1 2 (aH (ad rfl rfl) (show _=Value.int .i64 1 from rfl)) ?_;intro a I;refine a8 ?_;refine rC 2 I ?_;clear I a
 refine u1 10 (et (aq rfl rfl) (by omega)) ?_;refine u1 0 (ix rfl rfl aA fO) ?_;refine u1 6 (aj rfl dE (eO (O.p 2).rd (show ([Value.int .i64 (((aU bs).1:Nat):Int),Value.int .i64 (((aU bs).2:Nat):Int)]:List Value)[1]?=some (Value.int .i64 (((aU bs).2:Nat):Int)) from rfl))) ?_;refine u1 0 (aH (jY rfl rfl (by omega)) (show _=Value.int .i64 (((aU bs).2 / 16777216:Nat):Int) from congrArg (Value.int .i64) (ia ((aU bs).2) 24 (by decide)))) ?_;refine u1 1 (aH (eM rfl p3 oZ) (show _=ai (UInt8.ofNat ((aU bs).2 / 16777216)) from j9 _)) ?_;refine u1 0 (aH (jY rfl rfl (by omega)) (show _=Value.int .i64 (((aU bs).2 / 65536:Nat):Int) from congrArg (Value.int .i64) (ia ((aU bs).2) 16 (by decide)))) ?_;refine u1 1 (aH (eM rfl p3 oZ) (show _=ai (UInt8.ofNat ((aU bs).2 / 65536)) from j9 _)) ?_;refine u1 0 (aH (jY rfl rfl (by omega)) (show _=Value.int .i64 (((aU bs).2 / 256:Nat):Int) from congrArg (Value.int .i64) (ia ((aU bs).2) 8 (by decide)))) ?_;refine u1 1 (aH (eM rfl p3 oZ) (show _=ai (UInt8.ofNat ((aU bs).2 / 256)) from j9 _)) ?_;refine u1 0 (aH (eM rfl p3 oZ) (show _=ai (UInt8.ofNat ((aU bs).2)) from j9 _)) ?_
 intro a I;refine nF I rfl rfl aW j5 rfl rfl rfl (by simp[Value.oneCell',ai]) O ?_;clear I a O;intro A32 w O;intro a I;refine dj I rfl rfl rfl aW j5 rfl (O.p 1) (O.rd.src aW (by simp[Value.oneCell',ai])) (by simp only[List.length_append,eI];omega) (by simp only[List.length_append,eI];omega) ?_;clear I a O;intro A33 c33 w hc33 O;have e1:(bs++cn (aU bs).1).map ai++[ai (UInt8.ofNat ((aU bs).2 / 16777216)),ai (UInt8.ofNat ((aU bs).2 / 65536)),ai (UInt8.ofNat ((aU bs).2 / 256)),ai (UInt8.ofNat ((aU bs).2))]=((bs++cn (aU bs).1)++cn (aU bs).2).map ai:=by simp[cn]
 have e2:(bs++cn (aU bs).1).length+4=((bs++cn (aU bs).1)++cn (aU bs).2).length:=by simp[cn]
 intro a I;rw[e1,e2]at O;rw[e2]at I;clear e1 e2;refine rO 5 I ?_;clear I a;refine u1 2 (aH (ad rfl rfl) (show _=Value.int .i64 2 from rfl)) ?_;intro a I;refine a8 ?_;refine rC 2 I ?_;clear I a;refine u1 9 (dY (aq rfl rfl) (by omega)) ?_;intro a I;replace I:=I.kp [0,2] rfl;refine rC 7 I ?_;clear I a;refine aS ?_;have ho:(bs++cn (aU bs).1)++cn (aU bs).2=dg bs:=by unfold dg;rw[List.append_assoc]
 rw[ho]at O ⊢;exact⟨_,_,rfl,bY O⟩
structure NL where
 ba:Int
 s:SL
def NL.d (h:NL):nJ:=⟨h.ba,h.s.d⟩
def fX (h:NL):List Value:=[.int .i64 h.ba,.slice h.s.e.a h.s.e.es.length h.s.e.c,.slice h.s.p.va h.s.p.d.vec.length h.s.p.vc,.slice h.s.p.ca h.s.p.d.ab.length h.s.p.cc,.slice h.s.r.a h.s.r.rs.length h.s.r.c]
theorem Ez (h:NL):(fX h).length=5:=rfl
theorem l5 {xs:List NL}{i:Nat}{x:NL}(h:xs[i]?=some x):∀j u,(fX x)[j]?=some u→(xs.flatMap fX)[i * 5+j]?=some u:=jn Ez h
theorem GB (x:NL)(j:Nat)(u:Value)(e:(nL x.s)[j]?=some u):(fX x)[1+j]?=some u:=by
 show (Value.int .i64 x.ba::nL x.s)[1+j]?=some u;rw[Nat.add_comm,List.getElem?_cons_succ];exact e
theorem fR {hs:List NL}{i:Nat}{x:NL}(h:hs[i]?=some x):(hs.map NL.d)[i]?=some x.d:=by rw[List.getElem?_map,h];rfl
structure DL where
 self:Int
 next:Int
 a:Option Addr
 c:Nat
 hs:List NL
def DL.d (x:DL):dB:=⟨x.self,x.next,x.hs.map NL.d⟩
structure DL.ok (w:World)(x:DL):Prop where
 top:Rd w 5 (.slice x.a x.hs.length x.c) x.hs.length (x.hs.flatMap fX)
 each:∀h∈x.hs,h.s.ok w
theorem DL.ok.sat {W w:World}{L:List As}{x:DL}(h:x.ok W)(t:Sat W w L):x.ok w:=⟨h.top.sat t,fun y hy=>(h.each y hy).sat t⟩
structure DL.small (x:DL):Prop where
 len:x.hs.length≤1000000000
 each:∀h∈x.hs,j0 h.s
def SL.ch (ee ei es er:Nat)(s:SL):As:=star (iX ee s.e.a s.e.c s.e.es) (star (cM ei s.p.va s.p.vc s.p.d.vec) (star (bH es s.p.ca s.p.cc s.p.d.ab) (s.r.ch er ei es)))
section
variable {W w:World} {L:List As} {ee ei es er:Nat} {s:SL}
theorem oK (h:Sat W w (iX ee s.e.a s.e.c s.e.es::cM ei s.p.va s.p.vc s.p.d.vec::bH es s.p.ca s.p.cc s.p.d.ab::s.r.ch er ei es::L)):Sat W w (s.ch ee ei es er::L):=
 ((((h.p 3).p 3).shut.p 2).shut.p 1).shut
theorem F8 (h:Sat W w (s.ch ee ei es er::L)):Sat W w (iX ee s.e.a s.e.c s.e.es::cM ei s.p.va s.p.vc s.p.d.vec::bH es s.p.ca s.p.cc s.p.d.ab::s.r.ch er ei es::L):=by
 have x:=(((h.open_.p 1).open_.p 1).open_);exact ((((x.p 1).p 1).p 2).p 3)
theorem SL.J2 (h:Sat W w (s.ch ee ei es er::L)):s.ok w:=SL.uh (F8 h)
end
abbrev fe (ee ei es er:Nat)(hs:List NL):As:=br (hs.map fun x=>x.s.ch ee ei es er)
section
variable {W w:World} {L:List As} {ee ei es er:Nat} {hs:List NL}
theorem im (s:Sat W w (fe ee ei es er hs::L)):∀x∈hs,x.s.ok w:=fun x hx=>by
 obtain⟨i,hi⟩:=List.mem_iff_getElem?.1 hx;have h:(hs.map fun x=>x.s.ch ee ei es er)[i]?=some (x.s.ch ee ei es er):=by rw[List.getElem?_map,hi];rfl
 exact SL.J2 (s.dO h)
theorem iw (c:Int)(q:SL)(h:Sat W w (q.ch ee ei es er::fe ee ei es er hs::L)):Sat W w (fe ee ei es er (hs++[⟨c,q⟩])::L):=by
 have h2:=h.wJ;unfold fe;rw[List.map_append];exact h2
end
def DL.ch (eh ee ei es er:Nat)(x:DL):As:=star (row eh 5 (.slice x.a x.hs.length x.c) x.hs.length (x.hs.flatMap fX)) (fe ee ei es er x.hs)
section
variable {W w:World} {L:List As} {eh ee ei es er:Nat} {x:DL}
theorem DL.D4 {s n:Int}{A:Option Addr}{c:Nat}{hs:List NL}(h:Sat W w (row eh 5 (.slice A hs.length c) hs.length (hs.flatMap fX)::fe ee ei es er hs::L)):Sat W w ((⟨s,n,A,c,hs⟩:DL).ch eh ee ei es er::L):=h.shut
end
theorem H0 {d:dB}:kb d=(((decide (0≤d.self) && decide (d.self<16)) && (decide (0≤d.next) && decide (d.next≤4611686018427387904))) && kz cK none d.hs):=rfl
theorem ff {d:dB}(h:d.self<0∨16≤d.self∨d.next<0∨4611686018427387904<d.next):kb d=false:=by
 rw[Bool.eq_false_iff];intro e;obtain⟨h1,h2,h3,h4,_⟩:=cT e;omega
theorem kQ {d:dB}{i:Nat}{x:nJ}(hx:d.hs[i]?=some x)(h:cK (ahead none d.hs i) x=false):kb d=false:=by
 rw[Bool.eq_false_iff];intro e;have:=lH (cT e).2.2.2.2 i x hx;rw[h]at this;cases this
theorem te {d:dB}(h1:0≤d.self)(h2:d.self<16)(h3:0≤d.next)(h4:d.next≤4611686018427387904)(h:∀i x,d.hs[i]?=some x→cK (ahead none d.hs i) x=true):kb d=true:=by
 rw[H0,decide_eq_true h1,decide_eq_true h2,decide_eq_true h3,decide_eq_true h4,cX h];rfl
theorem xC {w:World}{A:Option Addr}{c:Nat}{bs:List UInt8}(h:Rd w 1 (.slice A bs.length c) bs.length (bs.map ai)):Rd w 1 (.slice A (bs.take (bs.length-8)).length (bs.take (bs.length-8)).length) (bs.take (bs.length-8)).length ((bs.take (bs.length-8)).map ai):=by
 have hk:(bs.take (bs.length-8)).length=bs.length-8:=by rw[List.length_take];omega
 have:=h.first (k:=bs.length-8) (by omega)
 rw[Nat.mul_one,←List.map_take]at this;rw[hk];exact this
theorem Eo {A:Option Addr}{bs:List UInt8}(h:8≤bs.length):Value.slice (i6 A ((bs.length:Int)-8).toNat 1 0) ((bs.length:Int)-8).toNat ((bs.length:Int)-8).toNat=.slice A (bs.take (bs.length-8)).length (bs.take (bs.length-8)).length:=by
 have hk:(bs.take (bs.length-8)).length=bs.length-8:=by rw[List.length_take];omega
 rw[wF,hk,show ((bs.length:Int)-8).toNat=bs.length-8 from by omega]
theorem str_inj {a b:List UInt8}(h:str a=str b):a=b:=congrArg (fun s:ByteArray=>s.data.toList) h
end Go.Proofs.YtkjabaihpkbfhaaGreat.Wk
namespace Go.Proofs.YtkjabaihpkbfhaaGreat.K
open Go Go.RowKit
variable {P:Program} {ops:Array Oper} {Q:Exit→Act→World→Prop} {S S':World→Prop} {X:List Nat} {W:World} {L:List As} {B C:As}
theorem sA (hsub:∀w,S' w→S w):∀(fuel:Nat) (listed:Array Bool) (a:Act) (w:World),S' w→bp P ops Q S' [] fuel listed a w→bp P ops Q S X fuel listed a w
 | 0,_,_,_,_,h=>h
 | fuel+1,listed,a,w,hw,h=>⟨h.1,fun i hi=>wpOp_mono (fun a' w' h'=>by
  rcases h'.1 with h1 | h1
  ·
   simp at h1
  ·
   exact⟨.inr fun _=>hsub _ (h1 hw),sA hsub fuel _ a' w' (h1 hw) h'.2⟩) (h.2 i hi)⟩
theorem lq.wide {w:World}(h:lq W (B::L) w):lq W L w:=by
 obtain⟨M,h⟩:=h;exact⟨M++[B],by rw[List.append_assoc];exact h⟩
theorem IB {fuel:Nat}{listed:Array Bool}{a:Act}{w:World}(h:Sat W w (B::L))(k:bp P ops Q (lq W (B::L)) [] fuel listed a w):bp P ops Q (lq W L) X fuel listed a w:=
 sA (fun _ x=>lq.wide x) fuel listed a w ⟨[],h⟩ k
end Go.Proofs.YtkjabaihpkbfhaaGreat.K
namespace Go.Proofs.YtkjabaihpkbfhaaGreat.Wk
open Go Go.RowKit Go.Proofs.YtkjabaihpkbfhaaGreat Go.Proofs.YtkjabaihpkbfhaaGreat.K Go.Proofs.YtkjabaihpkbfhaaGreat.T
theorem qX (W:World)(A:Option Addr)(c:Nat)(bs:List UInt8)(hR:Rd W 1 (.slice A bs.length c) bs.length (bs.map ai))(hl:bs.length≤1000000000):Calls Tryz.prog 97 #[.slice A (bs).length c] W fun e w'=>(ku bs∧e=.returned (.tuple #[.slice A (bs.take (bs.length-8)).length (bs.take (bs.length-8)).length,.bool true])∧Sat W w' [])∨(¬ku bs∧∃(A':Option Addr) (n' c':Nat),e=.returned (.tuple #[.slice A' n' c',.bool false])∧Sat W w' []):=by
 refine bP Tryz.func97 [0] ?_;have O:=Sat.start W;refine uC 10 ?_;refine u1 0 (ak rfl aW) ?_;refine aK 0 0 (aq rfl rfl) ?_ ?_
 ·intro h7;refine uO 11 ?_;refine ft ?_;exact .inr ⟨fun hh=>absurd hh.1 (by omega),none,0,0,rfl,O⟩
 ·intro h7;refine uO 9 ?_;refine u1 0 (ak rfl aW) ?_;refine u1 1 (sb rfl rfl) ?_;refine u1 0 (ak rfl aW) ?_;refine u1 0 (sb rfl rfl) ?_;obtain⟨A_p,rfl⟩:∃q,A=some q:=hR.ao (by omega);have hbr:=xC hR;obtain⟨_,c_,hc0,hcc⟩:=hR.form;have hcc:bs.length≤c:=by injection hc0;omega
  have hbl:(bs.take (bs.length-8)).length=bs.length-8:=by rw[List.length_take];omega
  refine u1 4 (aH (AP rfl rfl rfl aW mJ (by omega) (by omega) (by omega)) (Eo (by omega))) ?_;intro a I;refine bj [] O (by kernel_rfl) ?_;replace O:=O.drew;refine rX [0,1,4] I ?_;clear I a;refine cP 5 [] rfl (by exact⟨[],O⟩) (fun w hT=>have O:=hT.sat;(Eb rfl aW oZ x7 (hR.sat O))) ?_;intro a I;refine aD 2 (by kernel_rfl) ?_;refine eF I rfl rfl JL rfl (vC _ A_p (bs.take (bs.length-8)) (hbr.sat O) (by omega)) ?_;clear I a;rintro e w ⟨A18,c18,rfl,hT⟩;replace O:=O.au hT;clear hT;refine⟨_,rfl,?_⟩;intro a I;refine⟨.inr fun _=>(by exact⟨[_],O⟩),?_⟩;refine IB O ?_;refine X1 3 [] I rfl (by exact⟨[],O⟩) (fun w hT=>have O:=hT.sat;(Eb (I.ev rfl) aW oZ x7 O.rd)) ?_;clear I a;refine bx 6 [7,8] rfl (fun w=>(iN rfl rfl)) ?_;intro a I;refine ah (by kernel_rfl) ?_ _
  refine rE 1 I ?_;clear I a;intro a I;replace I:=I.kp [2,3] rfl;refine rC 1 I ?_;clear I a;refine ft ?_
  by_cases hq:ku bs
  ·rw[decide_eq_true (by rw[←hq.2])];exact .inl ⟨hq,rfl,O.nil⟩
  ·have hd:¬(({ data:=(dg (bs.take (bs.length-8))).toArray }:ByteArray)={ data:=bs.toArray }):=fun hh=>hq ⟨by omega,(str_inj hh).symm⟩
   rw[decide_eq_false hd];exact .inr ⟨hq,_,_,_,rfl,O.nil⟩
theorem o3 (W:World)(d:DL)(hp:d.ok W)(hs0:d.small):Calls Tryz.prog 88 #[.agg #[.int .i64 d.self,.int .i64 d.next,.slice d.a d.hs.length d.c]] W fun e w'=>e=.returned (.bool (kb d.d))∧Sat W w' []:=by
 refine bP Tryz.func88 [0] ?_;have O:=Sat.start W;obtain⟨self,next,da,dc,hs⟩:=d;have hR:Rd W 5 (.slice da hs.length dc) hs.length (hs.flatMap fX):=hp.top;have hE:∀h∈hs,h.s.ok W:=hp.each;have hl:hs.length≤1000000000:=hs0.len;have hSm:∀h∈hs,j0 h.s:=hs0.each;intro a I;dsimp only at I ⊢;refine rC 2 I ?_;clear I a;refine uB rfl O ?_;clear O;intro b1 w O;refine uO 6 ?_;refine u1 0 (aa rfl uH) ?_;refine u1 0 (ld rfl) ?_;refine aK 0 0 (aq rfl rfl) ?_ ?_
 ·intro h7;refine uO 25 ?_;refine aS ?_;rw[ff (d:=(DL.d ⟨self,next,_,dc,hs⟩)) (by show self<0∨16≤self∨next<0∨4611686018427387904<next;omega)];exact⟨rfl,O.nil⟩
 ·intro h7;refine uO 1 ?_;refine u1 0 (aa rfl uH) ?_;refine u1 0 (ld rfl) ?_;refine aK 0 0 (dH rfl rfl) ?_ ?_
  ·intro h11;refine uO 21 ?_;refine aS ?_;rw[ff (d:=(DL.d ⟨self,next,_,dc,hs⟩)) (by show self<0∨16≤self∨next<0∨4611686018427387904<next;omega)];exact⟨rfl,O.nil⟩
  ·intro h11;refine uO 2 ?_;refine u1 0 (aa rfl ub) ?_;refine u1 0 (ld rfl) ?_;refine aK 0 0 (aq rfl rfl) ?_ ?_
   ·intro h16;refine uO 16 ?_;refine aS ?_;rw[ff (d:=(DL.d ⟨self,next,_,dc,hs⟩)) (by show self<0∨16≤self∨next<0∨4611686018427387904<next;omega)];exact⟨rfl,O.nil⟩
   ·intro h16;refine uO 2 ?_;refine u1 0 (aa rfl ub) ?_;refine u1 0 (ld rfl) ?_;refine aK 0 0 (dx rfl rfl) ?_ ?_
    ·intro h21;refine uO 11 ?_;refine aS ?_;rw[ff (d:=(DL.d ⟨self,next,_,dc,hs⟩)) (by show self<0∨16≤self∨next<0∨4611686018427387904<next;omega)];exact⟨rfl,O.nil⟩
    ·intro h21;refine uO 9 ?_;refine u1 0 (aa rfl ij) ?_;refine u1 0 (ld rfl) ?_;refine u1 3 (ak rfl l8) ?_;intro a I;replace I:=I.kp [1,2,24,25,26] rfl;refine rC 1 I ?_;clear I a;intro a I;refine wp_loop_ghost (fun (mm:Nat) a w=>∃(i:Nat),Ag a 56 [(1,.pointer (some ⟨b1,0,none⟩)),(24,.slice da (hs).length dc),(25,.int .i64 ((hs.length:Nat):Int)),(26,.int .i64 ((i:Nat):Int))]∧Sat W w ([a6 b1 (.cells #[.int .i64 self,.int .i64 next,.slice da hs.length dc] 46)])∧(i≤hs.length)∧(∀j z,j<i→(hs.map NL.d)[j]?=some z→cK (ahead none (hs.map NL.d) j) z=true)∧mm=hs.length-i) hs.length ?_ ?_
     ·replace I:=I.kp [1,24,25,26] rfl;exact⟨0,I,O,(by omega),(by intro j z hj;omega),by omega⟩
     intro m a w hI;clear O I;obtain⟨i,I,O,hi,he,rfl⟩:=hI;refine rC 2 I ?_;clear I a;refine aK 0 0 (aq rfl rfl) ?_ ?_
     ·intro h27;refine uO 11 ?_;obtain⟨da_p,rfl⟩:∃q,da=some q:=(hR.sat O).ao (by omega);obtain⟨x,hx⟩:∃zz_,hs[i]?=some zz_:=⟨_,List.getElem?_eq_getElem (by omega)⟩;refine u1 0 (ix rfl rfl l8 xJ) ?_;refine u1 0 (ax (cs:=fX x) rfl Jr xJ (fun j u e=>bI (hR.sat O) (l5 hx j u e))) ?_;refine uN IH O ?_;clear O;intro b4 w O;refine uO 1 ?_;refine uW (vs:=[_,_,_,_,_]) (cs':=[_,_,_,_,_]) rfl rfl xJ O ?_;clear O;intro w O;refine uO 3 ?_;intro a I;refine cD (fun w'=>Sat _ w' _) (by kernel_rfl) (by kernel_rfl) O.drew ?_;refine Q1 0 I (fun w O=>(aa (I.ev rfl) rN)) ?_;clear I a;refine bc 0 (fun w O=>(ld rfl)) ?_;intro a I;refine K.rn I rfl rfl rfl (fun w O=>(aq (I.ev rfl) (I.ev rfl))) ?_ ?_
      ·clear I a;intro h33;refine uQ 21 ?_;intro a I;refine wpQuiet_nil ?_;clear O;intro w O;refine rE 13 I ?_;clear I a;refine aS ?_
       have hst:cK (ahead none (hs.map NL.d) i) x.d=false:=by
        unfold cK;rw[show x.d.ba=x.ba from rfl];rw[decide_eq_false (by omega)];rfl
       rw[kQ (d:=(DL.d ⟨self,next,_,dc,hs⟩)) (fR hx) hst];exact⟨rfl,O.nil⟩
      ·clear I a;intro h33;refine uQ 1 ?_;refine bc 0 (fun w O=>(aa rfl rN)) ?_;refine bc 0 (fun w O=>(ld rfl)) ?_;intro a I;refine K.lx I (aL I rfl rfl rfl) rfl rfl (fun w O=>(dH (I.ev rfl) (I.ev rfl))) ?_ ?_
       ·clear I a;intro h37;refine uQ 17 ?_;intro a I;refine wpQuiet_nil ?_;clear O;intro w O;refine rE 13 I ?_;clear I a;refine aS ?_
        have hst:cK (ahead none (hs.map NL.d) i) x.d=false:=by
         unfold cK;rw[show x.d.ba=x.ba from rfl];rw[decide_eq_true (show (0:Int)≤x.ba by omega),decide_eq_false (by omega)];rfl
        rw[kQ (d:=(DL.d ⟨self,next,_,dc,hs⟩)) (fR hx) hst];exact⟨rfl,O.nil⟩
       ·clear I a;intro h37;refine uQ 3 ?_;intro a I;refine K.lx I (aL I rfl rfl rfl) rfl rfl (fun w O=>(dx (I.ev rfl) (I.ev rfl))) ?_ ?_
        ·clear I a;intro h41;refine uQ 1 ?_;refine bc 0 (fun w O=>(aa rfl rN)) ?_;refine bc 0 (fun w O=>(ld rfl)) ?_;refine bc 0 (fun w O=>(aa rfl ij)) ?_;refine bc 1 (fun w O=>(ld rfl)) ?_;refine bc 0 (fun w O=>(aH (sb rfl rfl) (show _=Value.int .i64 ((i-1:Nat):Int) from congrArg (Value.int .i64) (by omega)))) ?_;obtain⟨y,hy⟩:∃zz_,hs[i-1]?=some zz_:=⟨_,List.getElem?_eq_getElem (by omega)⟩;refine bc 0 (fun w O=>(ix rfl rfl l8 xJ)) ?_;refine bc 0 (fun w O=>(aw rfl rN)) ?_;refine bc 0 (fun w O=>(aj rfl dE (bI (hR.sat O) (l5 hy 0 _ rfl)))) ?_;intro a I;refine K.lx I (aL I rfl rfl rfl) rfl rfl (fun w O=>(dU (I.ev rfl) (I.ev rfl))) ?_ ?_
         ·clear I a;intro h52;refine uQ 2 ?_;intro a I;refine wpQuiet_nil ?_;clear O;intro w O;refine rE 13 I ?_;clear I a;refine aS ?_
          have hst:cK (ahead none (hs.map NL.d) i) x.d=false:=by
           unfold cK;rw[show x.d.ba=x.ba from rfl];rw[decide_eq_true (show (0:Int)≤x.ba by omega),decide_eq_true (show x.ba<64 by omega)];unfold ahead;rw[if_neg (by omega),fR hy];show (true && true && decide (y.ba<x.ba))=_;rw[decide_eq_false (by omega)];rfl
          rw[kQ (d:=(DL.d ⟨self,next,_,dc,hs⟩)) (fR hx) hst];exact⟨rfl,O.nil⟩
         ·clear I a;intro h52;refine uQ 2 ?_;intro a I;refine wpQuiet_nil ?_;clear O;intro w O;refine rE 6 I ?_;clear I a;refine u1 2 (ad rfl rfl) ?_;intro a I;replace I:=I.kp [1,24,25,26] rfl
          have hst:cK (ahead none (hs.map NL.d) i) x.d=true:=by
           unfold cK;rw[show x.d.ba=x.ba from rfl];rw[decide_eq_true (show (0:Int)≤x.ba by omega),decide_eq_true (show x.ba<64 by omega)];unfold ahead;rw[if_neg (by omega),fR hy];show (true && true && decide (y.ba<x.ba))=_;rw[decide_eq_true (by omega)];rfl
          exact⟨hs.length-(i+1),by omega,i+1,I,O.drop,by omega,fun j z hj hz=>(by rcases Nat.lt_or_ge j i with h | h;exact he j z h hz;obtain rfl:j=i:=(by omega);rw[fR hx]at hz;cases hz;exact hst),rfl⟩
        ·clear I a;intro h41;refine uQ 13 ?_;intro a I;refine wpQuiet_nil ?_;clear O;intro w O;refine rE 6 I ?_;clear I a;refine u1 2 (ad rfl rfl) ?_;intro a I;replace I:=I.kp [1,24,25,26] rfl
         have hst:cK (ahead none (hs.map NL.d) i) x.d=true:=by
          unfold cK;rw[show x.d.ba=x.ba from rfl];rw[decide_eq_true (show (0:Int)≤x.ba by omega),decide_eq_true (show x.ba<64 by omega)];unfold ahead;rw[if_pos (by omega)];rfl
         exact⟨hs.length-(i+1),by omega,i+1,I,O.drop,by omega,fun j z hj hz=>(by rcases Nat.lt_or_ge j i with h | h;exact he j z h hz;obtain rfl:j=i:=(by omega);rw[fR hx]at hz;cases hz;exact hst),rfl⟩
     ·intro h27;refine uO 15 ?_;refine aS ?_;rw[te (d:=(DL.d ⟨self,next,_,dc,hs⟩)) (by show 0≤self;omega) (by show self<16;omega) (by show 0≤next;omega) (by show next≤_;omega) (fun j z hz=>he j z (by have:=(List.getElem?_eq_some_iff.1 hz).1;simp only[DL.d,List.length_map]at this;omega) hz)];exact⟨rfl,O.nil⟩
theorem pj (W:World)(d:DL)(hp:d.ok W)(hs0:d.small):Calls Tryz.prog 94 #[.agg #[.int .i64 d.self,.int .i64 d.next,.slice d.a d.hs.length d.c]] W fun e w'=>e=.returned (.bool (kb d.d))∧Sat W w' []:=by
 refine bP Tryz.func94 [0] ?_;have O:=Sat.start W;obtain⟨self,next,da,dc,hs⟩:=d;have hR:Rd W 5 (.slice da hs.length dc) hs.length (hs.flatMap fX):=hp.top;have hE:∀h∈hs,h.s.ok W:=hp.each;have hl:hs.length≤1000000000:=hs0.len;have hSm:∀h∈hs,j0 h.s:=hs0.each;intro a I;dsimp only at I ⊢;refine rC 2 I ?_;clear I a;refine uB rfl O ?_;clear O;intro b1 w O;refine uO 6 ?_;refine u1 0 (aa rfl ve) ?_;refine u1 0 (ld rfl) ?_;refine aK 0 0 (aq rfl rfl) ?_ ?_
 ·intro h7;refine uO 25 ?_;refine aS ?_;rw[ff (d:=(DL.d ⟨self,next,_,dc,hs⟩)) (by show self<0∨16≤self∨next<0∨4611686018427387904<next;omega)];exact⟨rfl,O.nil⟩
 ·intro h7;refine uO 1 ?_;refine u1 0 (aa rfl ve) ?_;refine u1 0 (ld rfl) ?_;refine aK 0 0 (dH rfl rfl) ?_ ?_
  ·intro h11;refine uO 21 ?_;refine aS ?_;rw[ff (d:=(DL.d ⟨self,next,_,dc,hs⟩)) (by show self<0∨16≤self∨next<0∨4611686018427387904<next;omega)];exact⟨rfl,O.nil⟩
  ·intro h11;refine uO 2 ?_;refine u1 0 (aa rfl vq) ?_;refine u1 0 (ld rfl) ?_;refine aK 0 0 (aq rfl rfl) ?_ ?_
   ·intro h16;refine uO 16 ?_;refine aS ?_;rw[ff (d:=(DL.d ⟨self,next,_,dc,hs⟩)) (by show self<0∨16≤self∨next<0∨4611686018427387904<next;omega)];exact⟨rfl,O.nil⟩
   ·intro h16;refine uO 2 ?_;refine u1 0 (aa rfl vq) ?_;refine u1 0 (ld rfl) ?_;refine aK 0 0 (dx rfl rfl) ?_ ?_
    ·intro h21;refine uO 11 ?_;refine aS ?_;rw[ff (d:=(DL.d ⟨self,next,_,dc,hs⟩)) (by show self<0∨16≤self∨next<0∨4611686018427387904<next;omega)];exact⟨rfl,O.nil⟩
    ·intro h21;refine uO 9 ?_;refine u1 0 (aa rfl ig) ?_;refine u1 0 (ld rfl) ?_;refine u1 3 (ak rfl lV) ?_;intro a I;replace I:=I.kp [1,2,24,25,26] rfl;refine rC 1 I ?_;clear I a;intro a I;refine wp_loop_ghost (fun (mm:Nat) a w=>∃(i:Nat),Ag a 56 [(1,.pointer (some ⟨b1,0,none⟩)),(24,.slice da (hs).length dc),(25,.int .i64 ((hs.length:Nat):Int)),(26,.int .i64 ((i:Nat):Int))]∧Sat W w ([a6 b1 (.cells #[.int .i64 self,.int .i64 next,.slice da hs.length dc] 50)])∧(i≤hs.length)∧(∀j z,j<i→(hs.map NL.d)[j]?=some z→cK (ahead none (hs.map NL.d) j) z=true)∧mm=hs.length-i) hs.length ?_ ?_
     ·replace I:=I.kp [1,24,25,26] rfl;exact⟨0,I,O,(by omega),(by intro j z hj;omega),by omega⟩
     intro m a w hI;clear O I;obtain⟨i,I,O,hi,he,rfl⟩:=hI;refine rC 2 I ?_;clear I a;refine aK 0 0 (aq rfl rfl) ?_ ?_
     ·intro h27;refine uO 11 ?_;obtain⟨da_p,rfl⟩:∃q,da=some q:=(hR.sat O).ao (by omega);obtain⟨x,hx⟩:∃zz_,hs[i]?=some zz_:=⟨_,List.getElem?_eq_getElem (by omega)⟩;refine u1 0 (ix rfl rfl lV xT) ?_;refine u1 0 (ax (cs:=fX x) rfl HX xT (fun j u e=>bI (hR.sat O) (l5 hx j u e))) ?_;refine uN H5 O ?_;clear O;intro b4 w O;refine uO 1 ?_;refine uW (vs:=[_,_,_,_,_]) (cs':=[_,_,_,_,_]) rfl rfl xT O ?_;clear O;intro w O;refine uO 3 ?_;intro a I;refine cD (fun w'=>Sat _ w' _) (by kernel_rfl) (by kernel_rfl) O.drew ?_;refine Q1 0 I (fun w O=>(aa (I.ev rfl) r7)) ?_;clear I a;refine bc 0 (fun w O=>(ld rfl)) ?_;intro a I;refine K.rn I rfl rfl rfl (fun w O=>(aq (I.ev rfl) (I.ev rfl))) ?_ ?_
      ·clear I a;intro h33;refine uQ 21 ?_;intro a I;refine wpQuiet_nil ?_;clear O;intro w O;refine rE 13 I ?_;clear I a;refine aS ?_
       have hst:cK (ahead none (hs.map NL.d) i) x.d=false:=by
        unfold cK;rw[show x.d.ba=x.ba from rfl];rw[decide_eq_false (by omega)];rfl
       rw[kQ (d:=(DL.d ⟨self,next,_,dc,hs⟩)) (fR hx) hst];exact⟨rfl,O.nil⟩
      ·clear I a;intro h33;refine uQ 1 ?_;refine bc 0 (fun w O=>(aa rfl r7)) ?_;refine bc 0 (fun w O=>(ld rfl)) ?_;intro a I;refine K.lx I (aL I rfl rfl rfl) rfl rfl (fun w O=>(dH (I.ev rfl) (I.ev rfl))) ?_ ?_
       ·clear I a;intro h37;refine uQ 17 ?_;intro a I;refine wpQuiet_nil ?_;clear O;intro w O;refine rE 13 I ?_;clear I a;refine aS ?_
        have hst:cK (ahead none (hs.map NL.d) i) x.d=false:=by
         unfold cK;rw[show x.d.ba=x.ba from rfl];rw[decide_eq_true (show (0:Int)≤x.ba by omega),decide_eq_false (by omega)];rfl
        rw[kQ (d:=(DL.d ⟨self,next,_,dc,hs⟩)) (fR hx) hst];exact⟨rfl,O.nil⟩
       ·clear I a;intro h37;refine uQ 3 ?_;intro a I;refine K.lx I (aL I rfl rfl rfl) rfl rfl (fun w O=>(dx (I.ev rfl) (I.ev rfl))) ?_ ?_
        ·clear I a;intro h41;refine uQ 1 ?_;refine bc 0 (fun w O=>(aa rfl r7)) ?_;refine bc 0 (fun w O=>(ld rfl)) ?_;refine bc 0 (fun w O=>(aa rfl ig)) ?_;refine bc 1 (fun w O=>(ld rfl)) ?_;refine bc 0 (fun w O=>(aH (sb rfl rfl) (show _=Value.int .i64 ((i-1:Nat):Int) from congrArg (Value.int .i64) (by omega)))) ?_;obtain⟨y,hy⟩:∃zz_,hs[i-1]?=some zz_:=⟨_,List.getElem?_eq_getElem (by omega)⟩;refine bc 0 (fun w O=>(ix rfl rfl lV xT)) ?_;refine bc 0 (fun w O=>(aw rfl r7)) ?_;refine bc 0 (fun w O=>(aj rfl dE (bI (hR.sat O) (l5 hy 0 _ rfl)))) ?_;intro a I;refine K.lx I (aL I rfl rfl rfl) rfl rfl (fun w O=>(dU (I.ev rfl) (I.ev rfl))) ?_ ?_
         ·clear I a;intro h52;refine uQ 2 ?_;intro a I;refine wpQuiet_nil ?_;clear O;intro w O;refine rE 13 I ?_;clear I a;refine aS ?_
          have hst:cK (ahead none (hs.map NL.d) i) x.d=false:=by
           unfold cK;rw[show x.d.ba=x.ba from rfl];rw[decide_eq_true (show (0:Int)≤x.ba by omega),decide_eq_true (show x.ba<64 by omega)];unfold ahead;rw[if_neg (by omega),fR hy];show (true && true && decide (y.ba<x.ba))=_;rw[decide_eq_false (by omega)];rfl
          rw[kQ (d:=(DL.d ⟨self,next,_,dc,hs⟩)) (fR hx) hst];exact⟨rfl,O.nil⟩
         ·clear I a;intro h52;refine uQ 2 ?_;intro a I;refine wpQuiet_nil ?_;clear O;intro w O;refine rE 6 I ?_;clear I a;refine u1 2 (ad rfl rfl) ?_;intro a I;replace I:=I.kp [1,24,25,26] rfl
          have hst:cK (ahead none (hs.map NL.d) i) x.d=true:=by
           unfold cK;rw[show x.d.ba=x.ba from rfl];rw[decide_eq_true (show (0:Int)≤x.ba by omega),decide_eq_true (show x.ba<64 by omega)];unfold ahead;rw[if_neg (by omega),fR hy];show (true && true && decide (y.ba<x.ba))=_;rw[decide_eq_true (by omega)];rfl
          exact⟨hs.length-(i+1),by omega,i+1,I,O.drop,by omega,fun j z hj hz=>(by rcases Nat.lt_or_ge j i with h | h;exact he j z h hz;obtain rfl:j=i:=(by omega);rw[fR hx]at hz;cases hz;exact hst),rfl⟩
        ·clear I a;intro h41;refine uQ 13 ?_;intro a I;refine wpQuiet_nil ?_;clear O;intro w O;refine rE 6 I ?_;clear I a;refine u1 2 (ad rfl rfl) ?_;intro a I;replace I:=I.kp [1,24,25,26] rfl
         have hst:cK (ahead none (hs.map NL.d) i) x.d=true:=by
          unfold cK;rw[show x.d.ba=x.ba from rfl];rw[decide_eq_true (show (0:Int)≤x.ba by omega),decide_eq_true (show x.ba<64 by omega)];unfold ahead;rw[if_pos (by omega)];rfl
         exact⟨hs.length-(i+1),by omega,i+1,I,O.drop,by omega,fun j z hj hz=>(by rcases Nat.lt_or_ge j i with h | h;exact he j z h hz;obtain rfl:j=i:=(by omega);rw[fR hx]at hz;cases hz;exact hst),rfl⟩
     ·intro h27;refine uO 15 ?_;refine aS ?_;rw[te (d:=(DL.d ⟨self,next,_,dc,hs⟩)) (by show 0≤self;omega) (by show self<16;omega) (by show 0≤next;omega) (by show next≤_;omega) (fun j z hz=>he j z (by have:=(List.getElem?_eq_some_iff.1 hz).1;simp only[DL.d,List.length_map]at this;omega) hz)];exact⟨rfl,O.nil⟩
theorem BF {hs:List nJ}(h:kz cK none hs=true):∀(i:Nat) (x:nJ),hs[i]?=some x→(i:Int)≤x.ba
 | 0, x, hx => by
   have:=lH h 0 x hx;unfold cK at this;simp only[Bool.and_eq_true,decide_eq_true_eq]at this;omega
 | i + 1, x, hx => by
   have hi:=(List.getElem?_eq_some_iff.1 hx).1;have hy:hs[i]?=some hs[i]:=List.getElem?_eq_getElem (by omega);have h1:=BF h i _ hy;have h2:=lH h (i+1) x hx;unfold cK ahead at h2;rw[if_neg (by omega),Nat.add_sub_cancel,hy]at h2;simp only[Bool.and_eq_true,decide_eq_true_eq]at h2;omega
theorem kD {hs:List nJ}(h:kz cK none hs=true):hs.length≤64:=by
 rcases Nat.eq_zero_or_pos hs.length with h0 | h0
 ·
  omega
 ·
  have hx:hs[hs.length-1]?=some hs[hs.length-1]:=List.getElem?_eq_getElem (by omega);have h1:=BF h _ _ hx;have h2:=mT h _ (List.mem_of_getElem? hx);omega
theorem sW {f:iW→Bool}{d:dB}{x:nJ}(hx:x∈d.hs)(h:f x.st=false):iV f d=false:=by
 rw[Bool.eq_false_iff];intro e;have:=s4 e x hx;rw[h]at this;cases this
theorem eB {f:iW→Bool}{d:dB}(h:kb d=false):iV f d=false:=by unfold iV;rw[h];rfl
theorem rD {f:iW→Bool}{d:dB}(h:kb d=true)(h2:∀x∈d.hs,f x.st=true):iV f d=true:=by
 unfold iV;rw[h,Bool.true_and,List.all_eq_true];exact h2
theorem xV {k:Nat}{s:SL}(hk:k≤2)(hf:aB s.d=true)(hs:j0 s):(cq k s.d).length≤7200000000:=by
 obtain⟨h1,h2,h3⟩:=a7 hf;have hes:s.d.kL.length≤16777216:=hs.es;have hpc:s.d.bB.ab.length≤16777216:=hs.pc
 have hrs:cO (s.d.lY.map bS.bB)≤16777216:=by
  have:=hs.rs;show cO ((s.r.rs.map RL.d).map bS.bB)≤_;rw[gI];exact this
 have k1:=kR (i7 h1) (by omega);have k2:=mB (fw.1 h2).toAD (by omega);have k3:=kT (fA h3) (by omega);have k4:=nine (n:=(cI s.d.kL).length) (by omega);have k5:=nine (n:=(cB s.d.bB).length) (by omega);have k6:=nine (n:=(bV s.d.lY).length) (by omega);have k7:=nine (n:=k) (by omega);unfold cq fr;simp only[List.length_append];omega
theorem nn {k:Nat}{hs:List NL}{i:Nat}{x:NL}(h:hs[i]?=some x):bg k ((hs.take (i+1)).map NL.d)=bg k ((hs.take i).map NL.d)++(aE x.ba.toNat++(aE (cq k x.s.d).length++cq k x.s.d)):=by
 rw[ay h,List.map_append,o9];congr 1;show (o6 k x.d++[])=_;rw[List.append_nil];rfl
theorem DO {s n c:Nat}(h1:s≤9223372036854775807)(h2:n≤9223372036854775807)(h3:c≤9223372036854775807):(dv s n c).length≤40:=by
 have a:=nine h1;have b:=nine h2;have d:=nine h3;have e:=nine (n:=3) (by omega);unfold dv;simp only[List.length_append];omega
theorem Br (W:World)(d:DL)(hp:d.ok W)(hs0:d.small):Calls Tryz.prog 44 #[.agg #[.int .i64 d.self,.int .i64 d.next,.slice d.a d.hs.length d.c]] W fun e w'=>(iV aB d.d=true∧∃A' c',e=.returned (.tuple #[.slice A' (bh 1 d.d).length c',.int .i64 0])∧Sat W w' [row 5 1 (.slice A' (bh 1 d.d).length c') (bh 1 d.d).length ((bh 1 d.d).map ai)])∨(iV aB d.d=false∧e=.returned (.tuple #[.slice none 0 0,.int .i64 1])∧Sat W w' []):=by
 refine bP Tryz.func44 [0] ?_;have O:=Sat.start W;obtain⟨self,next,da,dc,hs⟩:=d;have hR:Rd W 5 (.slice da hs.length dc) hs.length (hs.flatMap fX):=hp.top;have hE:∀h∈hs,h.s.ok W:=hp.each;have hl:hs.length≤1000000000:=hs0.len;have hSm:∀h∈hs,j0 h.s:=hs0.each;intro a I;dsimp only at I ⊢;refine rC 2 I ?_;clear I a;refine uB rfl O ?_;clear O;intro b1 w O;refine uO 7 ?_;refine u1 0 (lS (cs:=[_,_,_]) rfl) ?_;refine uF rfl (o3 _ ⟨self,next,da,dc,hs⟩ (DL.ok.sat hp O) hs0) ?_;rintro e w ⟨rfl,hT⟩;replace O:Sat _ _ _:=O.ag hT;clear hT;cases h15:kb (DL.d ⟨self,next,da,dc,hs⟩)
 ·refine u1 11 (aI rfl) ?_;refine ft ?_;exact .inr ⟨eB h15,rfl,O.nil⟩
 ·have hform:=h15;obtain⟨hf1,hf2,hf3,hf4,hcs⟩:=cT hform;have hcl:=kD hcs;have hf1:0≤self:=hf1;have hf2:self<16:=hf2;have hf3:0≤next:=hf3;have hf4:next≤4611686018427387904:=hf4;have hcs:kz cK none (hs.map NL.d)=true:=hcs;have hcl:hs.length≤64:=by have:(hs.map NL.d).length≤64:=hcl;rwa[List.length_map]at this
  refine u1 7 (aI rfl) ?_;refine uN GH O ?_;clear O;intro b4 w O;refine uO 4 ?_;refine uF rfl (eK _) ?_;rintro e w ⟨p0,rfl,hT⟩;replace O:=O.au hT;clear hT;refine uO 6 ?_;refine u1 0 (aa rfl uH) ?_;refine u1 0 (ld rfl) ?_;refine u1 0 (aa rfl ub) ?_;refine u1 0 (ld rfl) ?_;refine u1 0 (aa rfl ij) ?_;refine u1 0 (ld rfl) ?_;refine u1 0 (ak rfl l8) ?_;intro a I;refine nF I rfl rfl aA jN rfl rfl rfl (by simp[Value.oneCell']) O ?_;clear I a O;intro A25 w O;refine u1 4 (ak rfl aA) ?_;intro a I;refine wp_loop_rounds 5 ?_;refine a8 ?_;refine rC 2 I ?_;clear I a;refine u1 10 (et (aq rfl rfl) (by omega)) ?_;obtain⟨A25_p,rfl⟩:∃q,A25=some q:=O.rd.ao (by omega)
  refine u1 0 (ix rfl rfl aA fO) ?_;refine u1 6 (aj rfl dE (eO O.rd (show ([Value.int .i64 3,Value.int .i64 self,Value.int .i64 next,Value.int .i64 ((hs.length:Nat):Int)]:List Value)[0]?=some (Value.int .i64 (3)) from rfl))) ?_;refine uF rfl (fk _ _ _ p0 none 0 [] false 3 ((O.aX 5 1).p 2) (by simp only[List.length_append,List.length_nil];omega) (by omega)) ?_;clear O;rintro e w ⟨rfl,An0,cn0,O⟩;rw[rb (by omega)]at O;simp only[Bool.not_true,Bool.or_false]at O;have hn0:=nine (n:=(3:Int).toNat) (by omega);refine uO 3 ?_;intro a I;replace I:=I.kp [1,2,3,4,5,7,25,26,27,28,29,30,31,32] rfl;refine rC 1 I ?_;clear I a;refine u1 2 (aH (ad rfl rfl) (show _=Value.int .i64 1 from rfl)) ?_;intro a I;refine a8 ?_;refine rC 2 I ?_;clear I a
  refine u1 10 (et (aq rfl rfl) (by omega)) ?_;refine u1 0 (ix rfl rfl aA fO) ?_;refine u1 6 (aj rfl dE (eO (O.p 2).rd (show ([Value.int .i64 3,Value.int .i64 self,Value.int .i64 next,Value.int .i64 ((hs.length:Nat):Int)]:List Value)[1]?=some (Value.int .i64 (self)) from rfl))) ?_;refine uF rfl (fk _ _ _ p0 _ _ _ false self O (by simp only[List.length_append,List.length_nil];omega) (by omega)) ?_;clear O;rintro e w ⟨rfl,An1,cn1,O⟩;rw[rb (by omega)]at O;simp only[Bool.not_true,Bool.or_false]at O;have hn1:=nine (n:=(self:Int).toNat) (by omega);refine uO 4 ?_;refine u1 2 (aH (ad rfl rfl) (show _=Value.int .i64 2 from rfl)) ?_;intro a I;refine a8 ?_;refine rC 2 I ?_;clear I a
  refine u1 10 (et (aq rfl rfl) (by omega)) ?_;refine u1 0 (ix rfl rfl aA fO) ?_;refine u1 6 (aj rfl dE (eO (O.p 2).rd (show ([Value.int .i64 3,Value.int .i64 self,Value.int .i64 next,Value.int .i64 ((hs.length:Nat):Int)]:List Value)[2]?=some (Value.int .i64 (next)) from rfl))) ?_;refine uF rfl (fk _ _ _ p0 _ _ _ false next O (by simp only[List.length_append,List.length_nil];omega) (by omega)) ?_;clear O;rintro e w ⟨rfl,An2,cn2,O⟩;rw[rb (by omega)]at O;simp only[Bool.not_true,Bool.or_false]at O;have hn2:=nine (n:=(next:Int).toNat) (by omega);refine uO 3 ?_;intro a I;replace I:=I.kp [1,2,3,4,5,7,25,26,27,28,29,30,31,32,34] rfl;refine rC 1 I ?_;clear I a;refine u1 2 (aH (ad rfl rfl) (show _=Value.int .i64 3 from rfl)) ?_;intro a I;refine a8 ?_;refine rC 2 I ?_;clear I a
  refine u1 10 (et (aq rfl rfl) (by omega)) ?_;refine u1 0 (ix rfl rfl aA fO) ?_;refine u1 6 (aj rfl dE (eO (O.p 2).rd (show ([Value.int .i64 3,Value.int .i64 self,Value.int .i64 next,Value.int .i64 ((hs.length:Nat):Int)]:List Value)[3]?=some (Value.int .i64 (((hs.length:Nat):Int))) from rfl))) ?_;refine uF rfl (fk _ _ _ p0 _ _ _ false (hs.length:Int) O (by simp only[List.length_append,List.length_nil];omega) (by omega)) ?_;clear O;rintro e w ⟨rfl,An3,cn3,O⟩;rw[rb (by omega)]at O;simp only[Bool.not_true,Bool.or_false]at O;have hn3:=nine (n:=((hs.length:Int):Int).toNat) (by omega);refine uO 4 ?_;refine u1 2 (aH (ad rfl rfl) (show _=Value.int .i64 4 from rfl)) ?_;intro a I;refine a8 ?_;refine rC 2 I ?_;clear I a;refine u1 9 (dY (aq rfl rfl) (by omega)) ?_;intro a I;replace I:=I.kp [1,2,3,4,5] rfl;refine rC 3 I ?_;clear I a
  refine u1 0 (aa rfl ij) ?_;refine u1 0 (ld rfl) ?_;refine u1 4 (ak rfl l8) ?_;intro a I;refine wp_loop_ghost (fun (mm:Nat) a w=>∃(i:Nat) (out:List UInt8) (Ao:Option Addr) (co:Nat),Ag a 70 [(4,.pointer (some ⟨b4,0,none⟩)),(5,.pointer (some ⟨p0,0,none⟩)),(36,.slice da (hs).length dc),(37,.int .i64 ((hs.length:Nat):Int)),(38,.int .i64 ((i:Nat):Int))]∧Sat W w ([Gk p0 Ao co (out) false,row 5 1 (.slice Ao (out).length co) (out).length ((out).map ai),a6 b4 (.cells #[] 109)])∧(i≤hs.length)∧(out=dv self.toNat next.toNat hs.length++bg 1 ((hs.take i).map NL.d))∧(∀j z,j<i→hs[j]?=some z→aB z.s.d=true)∧(out.length≤40+i * 8000000000)∧mm=hs.length-i) hs.length ?_ ?_
  ·replace I:=I.kp [4,5,36,37,38] rfl;exact⟨0,_,_,_,I,(pw (O.p 2).drop),(by omega),(by simp[dv,bg]),(by intro j z hj;omega),(by simp only[List.length_append,List.length_nil];omega),by omega⟩
  intro m a w hI;clear O I;obtain⟨i,out,Ao,co,I,O,hi,ho,hok,hol,rfl⟩:=hI;refine rC 2 I ?_;clear I a;refine aK 0 0 (aq rfl rfl) ?_ ?_
  ·intro h39;refine uO 10 ?_;obtain⟨da_p,rfl⟩:∃q,da=some q:=(hR.sat O).ao (by omega);obtain⟨x,hx⟩:∃zz_,hs[i]?=some zz_:=⟨_,List.getElem?_eq_getElem (by omega)⟩;have hxm:=List.mem_of_getElem? hx;obtain⟨hxc0,hxc1⟩:=mT hcs x.d (List.mem_of_getElem? (fR hx));have hxc0:0≤x.ba:=hxc0;have hxc1:x.ba<64:=hxc1;have hnc:=nine (n:=x.ba.toNat) (by omega);have hib:=Nat.mul_le_mul_right 8000000000 (show i≤64 by omega);refine u1 0 (ix rfl rfl l8 xJ) ?_;refine u1 0 (ax (cs:=fX x) rfl Jr xJ (fun j u e=>bI (hR.sat O) (l5 hx j u e))) ?_;refine uN IH O ?_;clear O;intro b9 w O;refine uW (vs:=[_,_,_,_,_]) (cs':=[_,_,_,_,_]) rfl rfl xJ O ?_;clear O;intro w O;refine uO 4 ?_;refine u1 0 (lS (cs:=[]) rfl) ?_;refine u1 0 (yQ rfl Gn) ?_;refine u1 0 (aa rfl Ea) ?_;refine u1 0 (lS (cs:=[_,_,_,_]) rfl) ?_;intro a I
   refine Jp I rfl (show rz Tryz.prog 109 "Pack"=some 423 from by kernel_rfl) (show enters Tryz.prog 423=true from by kernel_rfl) rfl rfl (y5 _ x.s ((hE x hxm).sat O) (hSm x hxm)) ?_;clear I a;rintro e w ⟨A47,c47,he,hT⟩;cases h47:aB x.s.d
   ·rw[fH h47,jE h47]at he;subst he;rw[fH h47]at hT;replace O:=O.au hT;clear hT;refine⟨_,rfl,?_⟩;refine uO 1 ?_;refine u1 0 (an rfl rfl) ?_;refine u1 8 (an rfl rfl) ?_;refine u1 16 (et (aG rfl rfl) (by omega)) ?_;refine ft ?_;exact .inr ⟨sW (d:=(DL.d ⟨self,next,_,dc,hs⟩)) (List.mem_of_getElem? (fR hx)) h47,rfl,O.nil⟩
   ·rw[eJ h47,ir h47]at he;subst he;rw[eJ h47]at hT;replace O:=O.au hT;clear hT;have hfx:aB x.s.d=true:=h47;have hsl:=xV (k:=1) (by decide) hfx (hSm x hxm);have hns:=nine (n:=(cq 1 x.s.d).length) (by omega);refine⟨_,rfl,?_⟩;refine uO 1 ?_;refine u1 0 (an rfl rfl) ?_;refine u1 8 (an rfl rfl) ?_;refine u1 8 (dY (aG rfl rfl) (by omega)) ?_;refine u1 0 (aa rfl rN) ?_;refine u1 0 (ld rfl) ?_;refine uF rfl (fk _ _ _ p0 Ao co out false x.ba ((O.p 3).p 3) (by omega) (by omega)) ?_;clear O;rintro e w ⟨rfl,An55,cn55,O⟩;rw[rb (by omega)]at O;simp only[Bool.not_true,Bool.or_false]at O;refine uO 2 ?_;intro a I;replace I:=I.kp [4,5,9,10,11,36,37,38,39,40,41,42,43,44,45,46,47,48,49,50,51,52,53,54] rfl;refine rC 3 I ?_;clear I a
    refine uF rfl (jz _ _ _ p0 _ _ _ false (str (cq 1 x.s.d)) A47 c47 O (by simp only[List.length_append];omega) (fun w' M N s=>(s.p 2).rd) (by show _+(cq 1 x.s.d).length≤_;simp only[List.length_append];omega)) ?_;clear O;rintro e w ⟨rfl,Af58,cf58,O⟩;rw[Gx (.inr rfl)]at O;dsimp only[ox]at O;refine uO 4 ?_;refine u1 2 (ad rfl rfl) ?_;intro a I;replace I:=I.kp [4,5,36,37,38] rfl;refine⟨hs.length-(i+1),by omega,i+1,_,_,_,I,pw (((O.p 4).p 2).p 2),by omega,?_,?_,?_,rfl⟩
    ·rw[nn hx,ho];simp only[List.append_assoc]
    ·exact fun j z hj hz=>(by rcases Nat.lt_or_ge j i with h | h;exact hok j z h hz;obtain rfl:j=i:=(by omega);rw[hx]at hz;cases hz;exact h47)
    ·simp only[List.length_append];have:=Nat.succ_mul i 8000000000;omega
  ·intro h39;refine uO 12 ?_;refine uF rfl (pW _ _ _ p0 Ao co out false O (O.p 1).rd (by have:=Nat.mul_le_mul_right 8000000000 (show i≤64 by omega);omega)) ?_;rintro e w ⟨A62,c62,he,hT⟩;simp only[Bool.false_eq_true,if_false]at he hT;subst he;replace O:=O.au hT;clear hT;refine uO 1 ?_;refine u1 0 (an rfl rfl) ?_;refine u1 8 (an rfl rfl) ?_;refine u1 5 (dY (aG rfl rfl) (by omega)) ?_;intro a I;replace I:=I.kp [12] rfl;refine rC 3 I ?_;clear I a;refine uF rfl (o4 _ _ _ A62 c62 out O (by have:=Nat.mul_le_mul_right 8000000000 (show i≤64 by omega);omega)) ?_;clear O;rintro e w ⟨A69,c69,rfl,O⟩;refine uO 5 ?_;refine ft ?_;have hie:i=hs.length:=by omega
   rw[hie,List.take_length]at ho;have hbd:out=dn 1 (DL.d ⟨self,next,da,dc,hs⟩):=by rw[ho];unfold dn;show dv self.toNat next.toNat hs.length++bg 1 (hs.map NL.d)=dv self.toNat next.toNat (hs.map NL.d).length++bg 1 (hs.map NL.d);rw[List.length_map]
   subst hbd;refine .inl ⟨rD hform fun y hy=>?_,_,_,rfl,bY O⟩;have hy:y∈hs.map NL.d:=hy;obtain⟨z,hz,rfl⟩:=List.mem_map.1 hy;obtain⟨j,hj⟩:=List.mem_iff_getElem?.1 hz;exact hok j z (by have:=(List.getElem?_eq_some_iff.1 hj).1;omega) hj
theorem AB (W:World)(d:DL)(hp:d.ok W)(hs0:d.small):Calls Tryz.prog 45 #[.agg #[.int .i64 d.self,.int .i64 d.next,.slice d.a d.hs.length d.c]] W fun e w'=>(iV bz d.d=true∧∃A' c',e=.returned (.tuple #[.slice A' (bh 2 d.d).length c',.int .i64 0])∧Sat W w' [row 5 1 (.slice A' (bh 2 d.d).length c') (bh 2 d.d).length ((bh 2 d.d).map ai)])∨(iV bz d.d=false∧e=.returned (.tuple #[.slice none 0 0,.int .i64 1])∧Sat W w' []):=by
 refine bP Tryz.func45 [0] ?_;have O:=Sat.start W;obtain⟨self,next,da,dc,hs⟩:=d;have hR:Rd W 5 (.slice da hs.length dc) hs.length (hs.flatMap fX):=hp.top;have hE:∀h∈hs,h.s.ok W:=hp.each;have hl:hs.length≤1000000000:=hs0.len;have hSm:∀h∈hs,j0 h.s:=hs0.each;intro a I;dsimp only at I ⊢;refine rC 2 I ?_;clear I a;refine uB rfl O ?_;clear O;intro b1 w O;refine uO 7 ?_;refine u1 0 (lS (cs:=[_,_,_]) rfl) ?_;refine uF rfl (pj _ ⟨self,next,da,dc,hs⟩ (DL.ok.sat hp O) hs0) ?_;rintro e w ⟨rfl,hT⟩;replace O:Sat _ _ _:=O.ag hT;clear hT;cases h15:kb (DL.d ⟨self,next,da,dc,hs⟩)
 ·refine u1 11 (aI rfl) ?_;refine ft ?_;exact .inr ⟨eB h15,rfl,O.nil⟩
 ·have hform:=h15;obtain⟨hf1,hf2,hf3,hf4,hcs⟩:=cT hform;have hcl:=kD hcs;have hf1:0≤self:=hf1;have hf2:self<16:=hf2;have hf3:0≤next:=hf3;have hf4:next≤4611686018427387904:=hf4;have hcs:kz cK none (hs.map NL.d)=true:=hcs;have hcl:hs.length≤64:=by have:(hs.map NL.d).length≤64:=hcl;rwa[List.length_map]at this
  refine u1 7 (aI rfl) ?_;refine uN H8 O ?_;clear O;intro b4 w O;refine uO 4 ?_;refine uF rfl (eK _) ?_;rintro e w ⟨p0,rfl,hT⟩;replace O:=O.au hT;clear hT;refine uO 6 ?_;refine u1 0 (aa rfl ve) ?_;refine u1 0 (ld rfl) ?_;refine u1 0 (aa rfl vq) ?_;refine u1 0 (ld rfl) ?_;refine u1 0 (aa rfl ig) ?_;refine u1 0 (ld rfl) ?_;refine u1 0 (ak rfl lV) ?_;intro a I;refine nF I rfl rfl aA jN rfl rfl rfl (by simp[Value.oneCell']) O ?_;clear I a O;intro A25 w O;refine u1 4 (ak rfl aA) ?_;intro a I;refine wp_loop_rounds 5 ?_;refine a8 ?_;refine rC 2 I ?_;clear I a;refine u1 10 (et (aq rfl rfl) (by omega)) ?_;obtain⟨A25_p,rfl⟩:∃q,A25=some q:=O.rd.ao (by omega)
  refine u1 0 (ix rfl rfl aA fO) ?_;refine u1 6 (aj rfl dE (eO O.rd (show ([Value.int .i64 3,Value.int .i64 self,Value.int .i64 next,Value.int .i64 ((hs.length:Nat):Int)]:List Value)[0]?=some (Value.int .i64 (3)) from rfl))) ?_;refine uF rfl (fk _ _ _ p0 none 0 [] false 3 ((O.aX 5 1).p 2) (by simp only[List.length_append,List.length_nil];omega) (by omega)) ?_;clear O;rintro e w ⟨rfl,An0,cn0,O⟩;rw[rb (by omega)]at O;simp only[Bool.not_true,Bool.or_false]at O;have hn0:=nine (n:=(3:Int).toNat) (by omega);refine uO 3 ?_;intro a I;replace I:=I.kp [1,2,3,4,5,7,25,26,27,28,29,30,31,32] rfl;refine rC 1 I ?_;clear I a;refine u1 2 (aH (ad rfl rfl) (show _=Value.int .i64 1 from rfl)) ?_;intro a I;refine a8 ?_;refine rC 2 I ?_;clear I a
  refine u1 10 (et (aq rfl rfl) (by omega)) ?_;refine u1 0 (ix rfl rfl aA fO) ?_;refine u1 6 (aj rfl dE (eO (O.p 2).rd (show ([Value.int .i64 3,Value.int .i64 self,Value.int .i64 next,Value.int .i64 ((hs.length:Nat):Int)]:List Value)[1]?=some (Value.int .i64 (self)) from rfl))) ?_;refine uF rfl (fk _ _ _ p0 _ _ _ false self O (by simp only[List.length_append,List.length_nil];omega) (by omega)) ?_;clear O;rintro e w ⟨rfl,An1,cn1,O⟩;rw[rb (by omega)]at O;simp only[Bool.not_true,Bool.or_false]at O;have hn1:=nine (n:=(self:Int).toNat) (by omega);refine uO 4 ?_;refine u1 2 (aH (ad rfl rfl) (show _=Value.int .i64 2 from rfl)) ?_;intro a I;refine a8 ?_;refine rC 2 I ?_;clear I a
  refine u1 10 (et (aq rfl rfl) (by omega)) ?_;refine u1 0 (ix rfl rfl aA fO) ?_;refine u1 6 (aj rfl dE (eO (O.p 2).rd (show ([Value.int .i64 3,Value.int .i64 self,Value.int .i64 next,Value.int .i64 ((hs.length:Nat):Int)]:List Value)[2]?=some (Value.int .i64 (next)) from rfl))) ?_;refine uF rfl (fk _ _ _ p0 _ _ _ false next O (by simp only[List.length_append,List.length_nil];omega) (by omega)) ?_;clear O;rintro e w ⟨rfl,An2,cn2,O⟩;rw[rb (by omega)]at O;simp only[Bool.not_true,Bool.or_false]at O;have hn2:=nine (n:=(next:Int).toNat) (by omega);refine uO 3 ?_;intro a I;replace I:=I.kp [1,2,3,4,5,7,25,26,27,28,29,30,31,32,34] rfl;refine rC 1 I ?_;clear I a;refine u1 2 (aH (ad rfl rfl) (show _=Value.int .i64 3 from rfl)) ?_;intro a I;refine a8 ?_;refine rC 2 I ?_;clear I a
  refine u1 10 (et (aq rfl rfl) (by omega)) ?_;refine u1 0 (ix rfl rfl aA fO) ?_;refine u1 6 (aj rfl dE (eO (O.p 2).rd (show ([Value.int .i64 3,Value.int .i64 self,Value.int .i64 next,Value.int .i64 ((hs.length:Nat):Int)]:List Value)[3]?=some (Value.int .i64 (((hs.length:Nat):Int))) from rfl))) ?_;refine uF rfl (fk _ _ _ p0 _ _ _ false (hs.length:Int) O (by simp only[List.length_append,List.length_nil];omega) (by omega)) ?_;clear O;rintro e w ⟨rfl,An3,cn3,O⟩;rw[rb (by omega)]at O;simp only[Bool.not_true,Bool.or_false]at O;have hn3:=nine (n:=((hs.length:Int):Int).toNat) (by omega);refine uO 4 ?_;refine u1 2 (aH (ad rfl rfl) (show _=Value.int .i64 4 from rfl)) ?_;intro a I;refine a8 ?_;refine rC 2 I ?_;clear I a;refine u1 9 (dY (aq rfl rfl) (by omega)) ?_;intro a I;replace I:=I.kp [1,2,3,4,5] rfl;refine rC 3 I ?_;clear I a
  refine u1 0 (aa rfl ig) ?_;refine u1 0 (ld rfl) ?_;refine u1 4 (ak rfl lV) ?_;intro a I;refine wp_loop_ghost (fun (mm:Nat) a w=>∃(i:Nat) (out:List UInt8) (Ao:Option Addr) (co:Nat),Ag a 70 [(4,.pointer (some ⟨b4,0,none⟩)),(5,.pointer (some ⟨p0,0,none⟩)),(36,.slice da (hs).length dc),(37,.int .i64 ((hs.length:Nat):Int)),(38,.int .i64 ((i:Nat):Int))]∧Sat W w ([Gk p0 Ao co (out) false,row 5 1 (.slice Ao (out).length co) (out).length ((out).map ai),a6 b4 (.cells #[] 94)])∧(i≤hs.length)∧(out=dv self.toNat next.toNat hs.length++bg 2 ((hs.take i).map NL.d))∧(∀j z,j<i→hs[j]?=some z→bz z.s.d=true)∧(out.length≤40+i * 8000000000)∧mm=hs.length-i) hs.length ?_ ?_
  ·replace I:=I.kp [4,5,36,37,38] rfl;exact⟨0,_,_,_,I,(pw (O.p 2).drop),(by omega),(by simp[dv,bg]),(by intro j z hj;omega),(by simp only[List.length_append,List.length_nil];omega),by omega⟩
  intro m a w hI;clear O I;obtain⟨i,out,Ao,co,I,O,hi,ho,hok,hol,rfl⟩:=hI;refine rC 2 I ?_;clear I a;refine aK 0 0 (aq rfl rfl) ?_ ?_
  ·intro h39;refine uO 10 ?_;obtain⟨da_p,rfl⟩:∃q,da=some q:=(hR.sat O).ao (by omega);obtain⟨x,hx⟩:∃zz_,hs[i]?=some zz_:=⟨_,List.getElem?_eq_getElem (by omega)⟩;have hxm:=List.mem_of_getElem? hx;obtain⟨hxc0,hxc1⟩:=mT hcs x.d (List.mem_of_getElem? (fR hx));have hxc0:0≤x.ba:=hxc0;have hxc1:x.ba<64:=hxc1;have hnc:=nine (n:=x.ba.toNat) (by omega);have hib:=Nat.mul_le_mul_right 8000000000 (show i≤64 by omega);refine u1 0 (ix rfl rfl lV xT) ?_;refine u1 0 (ax (cs:=fX x) rfl HX xT (fun j u e=>bI (hR.sat O) (l5 hx j u e))) ?_;refine uN H5 O ?_;clear O;intro b9 w O;refine uW (vs:=[_,_,_,_,_]) (cs':=[_,_,_,_,_]) rfl rfl xT O ?_;clear O;intro w O;refine uO 4 ?_;refine u1 0 (lS (cs:=[]) rfl) ?_;refine u1 0 (yQ rfl Iv) ?_;refine u1 0 (aa rfl Er) ?_;refine u1 0 (lS (cs:=[_,_,_,_]) rfl) ?_;intro a I
   refine Jp I rfl (show rz Tryz.prog 94 "Pack"=some 331 from by kernel_rfl) (show enters Tryz.prog 331=true from by kernel_rfl) rfl rfl (yJ _ x.s ((hE x hxm).sat O) (hSm x hxm)) ?_;clear I a;rintro e w ⟨A47,c47,he,hT⟩;cases h47:bz x.s.d
   ·rw[fH h47,jE h47]at he;subst he;rw[fH h47]at hT;replace O:=O.au hT;clear hT;refine⟨_,rfl,?_⟩;refine uO 1 ?_;refine u1 0 (an rfl rfl) ?_;refine u1 8 (an rfl rfl) ?_;refine u1 16 (et (aG rfl rfl) (by omega)) ?_;refine ft ?_;exact .inr ⟨sW (d:=(DL.d ⟨self,next,_,dc,hs⟩)) (List.mem_of_getElem? (fR hx)) h47,rfl,O.nil⟩
   ·rw[eJ h47,ir h47]at he;subst he;rw[eJ h47]at hT;replace O:=O.au hT;clear hT;have hfx:aB x.s.d=true:=dZ h47;have hsl:=xV (k:=2) (by decide) hfx (hSm x hxm);have hns:=nine (n:=(cq 2 x.s.d).length) (by omega);refine⟨_,rfl,?_⟩;refine uO 1 ?_;refine u1 0 (an rfl rfl) ?_;refine u1 8 (an rfl rfl) ?_;refine u1 8 (dY (aG rfl rfl) (by omega)) ?_;refine u1 0 (aa rfl r7) ?_;refine u1 0 (ld rfl) ?_;refine uF rfl (fk _ _ _ p0 Ao co out false x.ba ((O.p 3).p 3) (by omega) (by omega)) ?_;clear O;rintro e w ⟨rfl,An55,cn55,O⟩;rw[rb (by omega)]at O;simp only[Bool.not_true,Bool.or_false]at O;refine uO 2 ?_;intro a I;replace I:=I.kp [4,5,9,10,11,36,37,38,39,40,41,42,43,44,45,46,47,48,49,50,51,52,53,54] rfl;refine rC 3 I ?_;clear I a
    refine uF rfl (jz _ _ _ p0 _ _ _ false (str (cq 2 x.s.d)) A47 c47 O (by simp only[List.length_append];omega) (fun w' M N s=>(s.p 2).rd) (by show _+(cq 2 x.s.d).length≤_;simp only[List.length_append];omega)) ?_;clear O;rintro e w ⟨rfl,Af58,cf58,O⟩;rw[Gx (.inr rfl)]at O;dsimp only[ox]at O;refine uO 4 ?_;refine u1 2 (ad rfl rfl) ?_;intro a I;replace I:=I.kp [4,5,36,37,38] rfl;refine⟨hs.length-(i+1),by omega,i+1,_,_,_,I,pw (((O.p 4).p 2).p 2),by omega,?_,?_,?_,rfl⟩
    ·rw[nn hx,ho];simp only[List.append_assoc]
    ·exact fun j z hj hz=>(by rcases Nat.lt_or_ge j i with h | h;exact hok j z h hz;obtain rfl:j=i:=(by omega);rw[hx]at hz;cases hz;exact h47)
    ·simp only[List.length_append];have:=Nat.succ_mul i 8000000000;omega
  ·intro h39;refine uO 12 ?_;refine uF rfl (pW _ _ _ p0 Ao co out false O (O.p 1).rd (by have:=Nat.mul_le_mul_right 8000000000 (show i≤64 by omega);omega)) ?_;rintro e w ⟨A62,c62,he,hT⟩;simp only[Bool.false_eq_true,if_false]at he hT;subst he;replace O:=O.au hT;clear hT;refine uO 1 ?_;refine u1 0 (an rfl rfl) ?_;refine u1 8 (an rfl rfl) ?_;refine u1 5 (dY (aG rfl rfl) (by omega)) ?_;intro a I;replace I:=I.kp [12] rfl;refine rC 3 I ?_;clear I a;refine uF rfl (o4 _ _ _ A62 c62 out O (by have:=Nat.mul_le_mul_right 8000000000 (show i≤64 by omega);omega)) ?_;clear O;rintro e w ⟨A69,c69,rfl,O⟩;refine uO 5 ?_;refine ft ?_;have hie:i=hs.length:=by omega
   rw[hie,List.take_length]at ho;have hbd:out=dn 2 (DL.d ⟨self,next,da,dc,hs⟩):=by rw[ho];unfold dn;show dv self.toNat next.toNat hs.length++bg 2 (hs.map NL.d)=dv self.toNat next.toNat (hs.map NL.d).length++bg 2 (hs.map NL.d);rw[List.length_map]
   subst hbd;refine .inl ⟨rD hform fun y hy=>?_,_,_,rfl,bY O⟩;have hy:y∈hs.map NL.d:=hy;obtain⟨z,hz,rfl⟩:=List.mem_map.1 hy;obtain⟨j,hj⟩:=List.mem_iff_getElem?.1 hz;exact hok j z (by have:=(List.getElem?_eq_some_iff.1 hj).1;omega) hj
def k9 (k:Nat)(f:iW→Bool)(bs:List UInt8):Prop:=∀d:dB,iV f d=true→bs≠dn k d
theorem gY {most:Int}{v:Nat}{r:List UInt8}(h:(v:Int)≤most)(h2:v≤9223372036854775807):bM most (aE v++r)=some (v,r):=bD.2 ⟨rfl,h,h2⟩
theorem oR (k:Nat)(d:dB):dn k d=aE 3++(aE d.self.toNat++(aE d.next.toNat++(aE d.hs.length++bg k d.hs))):=by
 unfold dn dv;simp only[List.append_assoc]
section
variable {k:Nat} {f:iW→Bool} {bs r0 r1 r2:List UInt8} {v s n:Nat}
theorem Ke (h:bM 3 bs=none):k9 k f bs:=fun d _ e=>by
 rw[e,oR,gY (by decide) (by decide)]at h;cases h
theorem Kf (h:bM 3 bs=some (v,r0))(hv:(v:Int)≠3):k9 k f bs:=fun d _ e=>by
 rw[e,oR,gY (by decide) (by decide)]at h;cases h;exact hv rfl
theorem Ka (h:bM 3 bs=some (v,r0))(h1:bM 16 r0=none):k9 k f bs:=fun d hd e=>by
 obtain⟨a1,a2,a3,a4,_⟩:=cT (fE hd);rw[e,oR,gY (by decide) (by decide)]at h;cases h;rw[gY (by omega) (by omega)]at h1;cases h1
theorem Kd (h:bM 3 bs=some (v,r0))(h1:bM 16 r0=some (s,r1))(h2:bM 4611686018427387904 r1=none):k9 k f bs:=fun d hd e=>by
 obtain⟨a1,a2,a3,a4,_⟩:=cT (fE hd);rw[e,oR,gY (by decide) (by decide)]at h;cases h;rw[gY (by omega) (by omega)]at h1;cases h1;rw[gY (by omega) (by omega)]at h2;cases h2
theorem J7 (h:bM 3 bs=some (v,r0))(h1:bM 16 r0=some (s,r1))(h2:bM 4611686018427387904 r1=some (n,r2))(h3:bM 9223372036854775807 r2=none∨∃(c:Nat) (rr:List UInt8),bM 9223372036854775807 r2=some (c,rr)∧rr.length<c * 2):k9 k f bs:=fun d hd e=>by
 obtain⟨a1,a2,a3,a4,a5⟩:=cT (fE hd);have hl:=kD a5;rw[e,oR,gY (by decide) (by decide)]at h;cases h;rw[gY (by omega) (by omega)]at h1;cases h1;rw[gY (by omega) (by omega)]at h2;cases h2;rw[gY (by omega) (by omega)]at h3;rcases h3 with h3 | ⟨c,rr,h3,h4⟩
 ·
  cases h3
 ·
  cases h3;have:=oU k d.hs;omega
theorem uo {c:Nat}(h:bM 3 bs=some (v,r0))(hv:v=3)(h1:bM 16 r0=some (s,r1))(h2:bM 4611686018427387904 r1=some (n,r2)){a:Nat}(h3:bM 9223372036854775807 r2=some (c,bs.drop a)):bs=dv s n c++(bg k ([]:List nJ)++bs.drop a):=by
 subst hv;obtain⟨e0,_,_⟩:=bD.1 h;obtain⟨e1,_,_⟩:=bD.1 h1;obtain⟨e2,_,_⟩:=bD.1 h2;obtain⟨e3,_,_⟩:=bD.1 h3
 conv=>lhs;rw[e0,e1,e2,e3]
 unfold dv bg;simp only[List.append_assoc,List.flatMap_nil,List.nil_append]
end
def zM (f:iW→Bool)(hs:List NL):Prop:=∀h∈hs,0≤h.ba∧h.ba≤9223372036854775807∧f h.s.d=true∧j0 h.s
section
variable {k:Nat} {f:iW→Bool} {bs:List UInt8} {s n c a:Nat} {hs:List NL}
theorem jd (hk:k≤2)(hf:∀d,f d=true→aB d=true)(hL:bs.length≤16777216)(hs1:s≤9223372036854775807)(hn1:n≤9223372036854775807)(hc1:c≤9223372036854775807)(hg:zM f hs)(hl:hs.length≤c)
 (he:bs=dv s n c++(bg k (hs.map NL.d)++bs.drop a)) {d:dB} (hd:iV f d=true) (e:bs=dn k d):∃zs,d.hs=hs.map NL.d++zs∧bs.drop a=bg k zs∧zs.length+hs.length=c∧d.self=(s:Int)∧d.next=(n:Int):=by
 obtain⟨a1,a2,a3,a4,a5⟩:=cT (fE hd);have hcl:=kD a5
 have e2:dv d.self.toNat d.next.toNat d.hs.length++bg k d.hs=dv s n c++(bg k (hs.map NL.d)++bs.drop a):=by
  rw[←he];exact e.symm
 obtain⟨b1,b2,b3,b4⟩:=yV (by omega) (by omega) (by omega) hs1 hn1 hc1 e2;have hlb:(bg k d.hs).length≤bs.length:=by rw[e];unfold dn;rw[List.length_append];omega
 obtain⟨zs,h6,h7⟩:=oh hk hf (hs.map NL.d) d.hs (bs.drop a) (fun x hx=>by
  obtain⟨y,hy,rfl⟩:=List.mem_map.1 hx;obtain⟨g1,g2,g3,_⟩:=hg y hy;exact⟨g1,by show y.ba<_;omega,g3⟩) (vu hd) (by rw[List.length_map];omega) (by omega) b4
 refine⟨zs,h6,h7,?_,by omega,by omega⟩;have:=congrArg List.length h6;rw[List.length_append,List.length_map]at this;omega
theorem wX {zs:List nJ}(h:bs.drop a=bg k zs)(hz:0<zs.length):∃z zs',zs=z::zs'∧bs.drop a=aE z.ba.toNat++(aE (cq k z.st).length++cq k z.st++bg k zs'):=by
 cases zs with
 | nil=>simp at hz
 | cons z zs' =>
   refine⟨z,zs',rfl,?_⟩;rw[h,jK];unfold o6 fr;simp only[List.append_assoc]
theorem B4 (S:∀d,iV f d=true→bs=dn k d→∃zs,d.hs=hs.map NL.d++zs∧bs.drop a=bg k zs∧zs.length+hs.length=c∧d.self=(s:Int)∧d.next=(n:Int))(hi:hs.length<c)(h:bM 64 (bs.drop a)=none):k9 k f bs:=fun d hd e=>by
 obtain⟨zs,h1,h2,h3,_⟩:=S d hd e;obtain⟨z,zs',rfl,h4⟩:=wX h2 (by omega);obtain⟨hz1,hz2⟩:=mT (cT (fE hd)).2.2.2.2 z (by rw[h1];simp);rw[h4,gY (by omega) (by omega)]at h;cases h
theorem BU (hL:bs.length≤16777216)(S:∀d,iV f d=true→bs=dn k d→∃zs,d.hs=hs.map NL.d++zs∧bs.drop a=bg k zs∧zs.length+hs.length=c∧d.self=(s:Int)∧d.next=(n:Int))(hi:hs.length<c){mo:Int}{v:Nat}{r:List UInt8}(h:bM mo (bs.drop a)=some (v,r)){d:dB}(hd:iV f d=true)(e:bs=dn k d) :
 ∃z:nJ,f z.st=true∧z.ba=(v:Int)∧∃rr,dh 9223372036854775807 r=some (cq k z.st,rr):=by
 obtain⟨zs,h1,h2,h3,_⟩:=S d hd e;obtain⟨z,zs',rfl,h4⟩:=wX h2 (by omega);have hzm:z∈d.hs:=by rw[h1];simp
 obtain⟨hz1,hz2⟩:=mT (cT (fE hd)).2.2.2.2 z hzm;obtain⟨e1,_,e3⟩:=bD.1 h;rw[h4]at e1;obtain⟨e4,e5⟩:=lg (by omega) e3 e1
 have hsl:(cq k z.st).length≤bs.length:=by
  have:=congrArg List.length h4;simp only[List.length_append,List.length_drop]at this;omega
 exact⟨z,s4 hd z hzm,by omega,bg k zs',eH.2 ⟨e5.symm,by omega,by omega⟩⟩
theorem kB {v a1 a2:Nat}{mo mo2:Int}{st:SL}(he:bs=dv s n c++(bg k (hs.map NL.d)++bs.drop a))(h1:bM mo (bs.drop a)=some (v,bs.drop a1))(h2:dh mo2 (bs.drop a1)=some (cq k st.d,bs.drop a2)):bs=dv s n c++(bg k ((hs++[(⟨(v:Int),st⟩:NL)]).map NL.d)++bs.drop a2):=by
 obtain⟨e1,_,_⟩:=bD.1 h1;obtain⟨e2,_,_⟩:=eH.1 h2
 conv=>lhs;rw[he,e1,e2]
 rw[List.map_append,o9];show _=dv s n c++(bg k (hs.map NL.d)++(o6 k ⟨(v:Int),st.d⟩++[])++bs.drop a2);unfold o6 fr;rw[Int.toNat_natCast];simp only[List.append_assoc,List.append_nil]
theorem BQ (S:∀d,iV f d=true→bs=dn k d→∃zs,d.hs=hs.map NL.d++zs∧bs.drop a=bg k zs∧zs.length+hs.length=c∧d.self=(s:Int)∧d.next=(n:Int))(hi:hs.length=c)(h:bs.drop a≠[]):k9 k f bs:=fun d hd e=>by
 obtain⟨zs,h1,h2,h3,_⟩:=S d hd e;have:zs=[]:=List.eq_nil_of_length_eq_zero (by omega);subst this;exact h h2
theorem Bu (S:∀d,iV f d=true→bs=dn k d→∃zs,d.hs=hs.map NL.d++zs∧bs.drop a=bg k zs∧zs.length+hs.length=c∧d.self=(s:Int)∧d.next=(n:Int))(hi:hs.length=c){d:dB}(hd:iV f d=true)(e:bs=dn k d):d=⟨(s:Int),(n:Int),hs.map NL.d⟩:=by
 obtain⟨zs,h1,h2,h3,h4,h5⟩:=S d hd e;have:zs=[]:=List.eq_nil_of_length_eq_zero (by omega);subst this;cases d;simp only[List.append_nil]at h1 h4 h5;subst h1 h4 h5
 rfl
theorem tf (hL:bs.length≤16777216)(S:∀d,iV f d=true→bs=dn k d→∃zs,d.hs=hs.map NL.d++zs∧bs.drop a=bg k zs∧zs.length+hs.length=c∧d.self=(s:Int)∧d.next=(n:Int))(hi:hs.length<c){mo:Int}{v:Nat}{r:List UInt8}(h:bM mo (bs.drop a)=some (v,r))(h2:dh 9223372036854775807 r=none):k9 k f bs:=fun d hd e=>by
 obtain⟨z,_,_,rr,h3⟩:=BU hL S hi h hd e;rw[h2]at h3;cases h3
theorem we (hL:bs.length≤16777216)(S:∀d,iV f d=true→bs=dn k d→∃zs,d.hs=hs.map NL.d++zs∧bs.drop a=bg k zs∧zs.length+hs.length=c∧d.self=(s:Int)∧d.next=(n:Int))(hi:hs.length<c){mo:Int}{v:Nat}{r t r2:List UInt8}(h:bM mo (bs.drop a)=some (v,r))(h2:dh 9223372036854775807 r=some (t,r2))(h3:ry k f t):k9 k f bs:=fun d hd e=>by
 obtain⟨z,hz,_,rr,h4⟩:=BU hL S hi h hd e;rw[h2]at h4
 injection h4 with h4
 exact h3 z.st hz (Prod.mk.inj h4).1
end
def Gz (bs:List UInt8)(b7 bE:Nat)(L:List As)(at' err:Int)(ok:Bool)(M:List As):Prop:=(ok=true∧err=0∧∃(s n:Nat) (hs:List NL) (Ah:Option Addr) (ch_ a:Nat),at'=(a:Int)∧a≤bs.length∧bs=dv s n hs.length++(bg 1 (hs.map NL.d)++bs.drop a)∧(s:Int)≤16∧(n:Int)≤4611686018427387904∧zM aB hs∧hs.length * 2≤bs.length∧M=a6 b7 (.cells #[.int .i64 (s:Int),.int .i64 (n:Int),.slice Ah hs.length ch_] 46)::row 68 5 (.slice Ah hs.length ch_) hs.length (hs.flatMap fX)::fe 216 3 219 206 hs::a6 bE (.cells #[] 109)::L)∨(ok=false∧err≠0∧k9 1 aB bs∧∃N:List As,M=N++L)
theorem yC (W w:World)(L:List As)(r q p b7 bE:Nat)(A:Option Addr)(c:Nat)(bs:List UInt8)(O:Sat W w (gU r A c bs 0 true 0::iq q r::gV p 0::a6 b7 (.cells #[.int .i64 0,.int .i64 0,.slice none 0 0] 46)::a6 bE (.cells #[] 109)::L))(hb:bs.length≤16777216)(hR:Rd W 1 (.slice A bs.length c) bs.length (bs.map ai)):Calls Tryz.prog 99 #[.pointer (some ⟨r,0,none⟩),.pointer (some ⟨b7,0,none⟩),.pointer (some ⟨bE,0,none⟩)] w fun e w'=>∃(at' err:Int) (ok:Bool) (M:List As),AX r ok e∧Sat W w' (gU r A c bs at' true err::iq q r::gV p 0::M)∧Gz bs b7 bE L at' err ok M:=by
 refine bP Tryz.func99 [0,1,2] ?_;have hbl:bs.length≤16777216:=hb;intro a I;change Sat W w (gU r A c bs ((0:Nat):Int) true 0::_) at O;refine rC 4 I ?_;clear I a;intro a I;refine dX I rfl gO rfl (cg _ _ _ r A c bs 0 3 O (by omega) (by omega) (fun w h=>hR.sat h)) ?_;rintro e w (⟨v8,at8,hn8,ha8,hv8,hw8,rfl,hS'⟩ | ⟨hn8,⟨older,rfl,ho⟩,at',er,hne,hS'⟩)
 ·clear O;have O:=hS';clear hS';refine .inl ⟨_,rfl,?_⟩;clear I a;intro a I
  try rw[List.drop_zero]at hn8
  refine JD 0 0 I (aG (I.ev rfl) (I.ev rfl)) ?_ ?_
  ·clear I a;intro h9;refine uO 5 ?_;intro a I;refine dX I rfl lR rfl (cQ _ _ _ r A c bs at8 8 O (by omega) (by omega) (fun w h=>hR.sat h)) ?_;rintro e w ⟨⟨older,rfl,ho⟩,at',hS'⟩
   ·refine .inr ⟨_,rfl,?_⟩;refine rE 1 I ?_;clear I a;intro a I;refine db I ?_;clear O;have O:=hS';clear hS';exact⟨at',8,false,_,.inr ⟨rfl,.inl ⟨older,rfl,ho⟩⟩,O,.inr ⟨rfl,by decide,Kf hn8 (by omega),(by exact⟨[_,_],rfl⟩)⟩⟩
  ·clear I a;intro h9;refine uO 8 ?_;intro a I;refine dX I rfl gO rfl (cg _ _ _ r A c bs at8 16 O (by omega) (by omega) (fun w h=>hR.sat h)) ?_;rintro e w (⟨v13,at13,hn13,ha13,hv13,hw13,rfl,hS'⟩ | ⟨hn13,⟨older,rfl,ho⟩,at',er,hne,hS'⟩)
   ·clear O;have O:=hS';clear hS';refine .inl ⟨_,rfl,?_⟩;clear I a;refine u1 0 (aa rfl uH) ?_;intro a I;refine mf (cs':=[_,_,_]) I rfl rfl dE fO rfl (O.p 3) rfl rfl ?_;clear O;intro w O;refine rO 5 I ?_;clear I a;intro a I;refine dX I rfl gO rfl (cg _ _ _ r A c bs at13 4611686018427387904 (O.p 1) (by omega) (by omega) (fun w h=>hR.sat h)) ?_;rintro e w (⟨v16,at16,hn16,ha16,hv16,hw16,rfl,hS'⟩ | ⟨hn16,⟨older,rfl,ho⟩,at',er,hne,hS'⟩)
    ·clear O;have O:=hS';clear hS';refine .inl ⟨_,rfl,?_⟩;clear I a;refine u1 0 (aa rfl ub) ?_;intro a I;refine mf (cs':=[_,_,_]) I rfl rfl dE fO rfl (O.p 1) rfl rfl ?_;clear O;intro w O;refine rO 5 I ?_;clear I a;intro a I;refine dX I rfl zE rfl (gP _ _ _ r A c bs at16 2 (O.p 1) (by omega) (by omega) (fun w h=>hR.sat h) (by decide) (by decide)) ?_;rintro e w (⟨v19,at19,hn19,ha19,hk19,rfl,hS'⟩ | ⟨hn19,⟨older,rfl,ho⟩,at',er,hne,hS'⟩)
     ·clear O;have O:=hS';clear hS';rw[show (2:Int).toNat=2 from rfl]at hk19;refine .inl ⟨_,rfl,?_⟩;clear I a;refine uO 4 ?_;intro a I;refine wp_loop_ghost (fun (mm:Nat) a w=>∃(i:Nat) (hs:List NL) (Ah:Option Addr) (ch_ at1:Nat),Ag a 45 [(0,.pointer (some ⟨r,0,none⟩)),(1,.pointer (some ⟨b7,0,none⟩)),(2,.pointer (some ⟨bE,0,none⟩)),(19,.int .i64 ((v19:Nat):Int)),(20,.int .i64 ((i:Nat):Int))]∧Sat W w (gU r A c bs (at1:Int) true 0::iq q r::gV p 0::a6 b7 (.cells #[.int .i64 (v13:Int),.int .i64 (v16:Int),.slice Ah hs.length ch_] 46)::row 68 5 (.slice Ah hs.length ch_) hs.length (hs.flatMap fX)::fe 216 3 219 206 hs::a6 bE (.cells #[] 109)::L)∧(i≤v19)∧(hs.length=i)∧(at1≤bs.length)∧(bs=dv v13 v16 v19++(bg 1 (hs.map NL.d)++bs.drop at1))∧(zM aB hs)∧mm=v19-i) v19 ?_ ?_
      ·replace I:=I.kp [0,1,2,19,20] rfl;exact⟨0,[],none,0,at19,I,((O.kM.aX 68 5) |> fun z=>((((((z.p 1).p 1).p 3).p 5).p 5).p 5)),(by omega),(by rfl),(by omega),(by exact uo hn8 (by omega) hn13 hn16 hn19),(by intro h hh;cases hh),by omega⟩
      intro m a w hI;clear O I;obtain⟨i,hs,Ah,ch_,at1,I,O,hi,hhl,hat1,hbe,hgn,rfl⟩:=hI;refine rC 2 I ?_;clear I a;refine aK 0 0 (aq rfl rfl) ?_ ?_
      ·intro h21;have hSp:=fun d hd e=>jd (d:=d) (f:=aB) (by decide) (fun d hd=>hd) hbl (by omega) (by omega) (by omega) hgn (by omega) hbe hd e
       refine uO 11 ?_;intro a I;refine dX I rfl gO rfl (cg _ _ _ r A c bs at1 64 O (by omega) (by omega) (fun w h=>hR.sat h)) ?_;rintro e w (⟨v23,at23,hn23,ha23,hv23,hw23,rfl,hS'⟩ | ⟨hn23,⟨older,rfl,ho⟩,at',er,hne,hS'⟩)
       ·clear O;have O:=hS';clear hS';refine .inl ⟨_,rfl,?_⟩;clear I a;refine uO 4 ?_;intro a I;refine ja [] (lq W (a6 bE (.cells #[] 109)::L)) (by kernel_rfl) ?_;replace O:=O.drew;refine X1 0 [] I rfl (by exact⟨[_,_,_,_,_,_],O⟩) (fun w hT=>have O:=hT.sat;(ax (cs:=[]) (I.ev rfl) Il HS (by exact O.aF (xs:=[]) rfl))) ?_;clear I a;refine bx 1 [2] rfl (fun w=>(yQ rfl Gn)) ?_;intro a I;refine nr 3 8 (by kernel_rfl) ?_ ?_
        ·refine GD I rfl rfl tD rfl (eX _ _ _ r A c bs at23 9223372036854775807 O (by omega) (by omega) (fun w h=>hR.sat h)) ?_;rintro e w (⟨f28,at28,A28,c28,hn28,ha28,hl28,rfl,hS'⟩ | ⟨hn28,⟨older,rfl,ho⟩,at',er,hne,hS'⟩)
         rotate_left 1
         ·refine .inr ⟨_,rfl,?_⟩;refine rE 5 I ?_;clear I a;intro a I;refine db I ?_;clear O;have O:=hS';clear hS';exact⟨at',er,false,_,.inr ⟨rfl,.inl ⟨older,rfl,ho⟩⟩,(((O.p 2).p 2).p 2),.inr ⟨rfl,hne,tf hbl hSp (by omega) hn23 hn28,(by exact⟨[_,_,_,_],rfl⟩)⟩⟩
         clear O;have O:=hS';clear hS';refine .inl ⟨_,rfl,?_⟩;clear I a;intro a I;refine⟨.inr fun _=>(by exact⟨[_,_,_,_,_,_,_],O⟩),?_⟩;refine nr 4 8 (by kernel_rfl) ?_ ?_
         ·refine HK I rfl rfl (show rz Tryz.prog 109 "Unpack"=some 425 from by kernel_rfl) (show enters Tryz.prog 425=true from by kernel_rfl) rfl rfl (lW _ A28 c28 f28 (by omega) (O.p 1).rd) ?_;clear I a;rintro e w (⟨s29,hst29,hff29,hsm29,rfl,hT⟩ | ⟨hno29,rfl,hT⟩)
          ·replace O:Sat _ _ (_::_::_::_::_):=O.ag hT;clear hT;refine⟨_,rfl,?_⟩;intro a I;refine⟨.inr fun _=>(by exact⟨[_,_,_,_,_,_,_,_,_,_,_],O⟩),?_⟩;refine rX [5] I ?_;clear I a;refine bx 6 [] rfl (fun w=>(an rfl rfl)) ?_;refine bx 7 [] rfl (fun w=>(an rfl rfl)) ?_;intro a I;refine aD 8 (by kernel_rfl) ?_;refine eN I rfl rfl vH O ?_;clear I a O;intro b5 w O;intro a I;refine⟨.inr fun _=>(by exact⟨[_,_,_,_,_,_,_,_,_,_,_,_],O⟩),?_⟩;refine aD 9 (by kernel_rfl) ?_;refine dr (vs:=[_,_,_,_]) (cs':=[_,_,_,_]) I rfl rfl rfl ke (by simp[Value.oneCell']) O rfl rfl ?_;clear O;intro w O;refine⟨.inr fun _=>(by exact⟨[_,_,_,_,_,_,_,_,_,_,_,_],O⟩),?_⟩;refine rX [10] I ?_;clear I a;intro a I;refine ah (by kernel_rfl) ?_ _;refine rE 5 I ?_;clear I a
           refine u1 6 (dY (aG rfl rfl) (by omega)) ?_;refine u1 0 (aa rfl ij) ?_;refine u1 1 (aj rfl z6 (by exact (O.p 9).cell rfl)) ?_;refine u1 0 (lS (cs:=[_,_,_,_]) rfl) ?_;intro a I;refine o1 0 I (aM I rfl qp) ?_;clear I a;intro a I;refine jf (vss:=[[_,_,_,_,_]]) I rfl rfl l8 zx rfl rfl rfl (by simp) rfl O ?_;clear I a O;intro A41 w O;intro a I;refine dj I rfl rfl rfl l8 zx rfl (O.p 11) (O.rd.src l8 (by simp[Value.oneCell'])) (by omega) (by omega) ?_;clear I a O;intro A42 c42 w hc42 O;refine u1 0 (aa rfl ij) ?_;intro a I;refine mf (cs':=[_,_,_]) I rfl rfl z6 FO rfl (O.p 11) rfl rfl ?_;clear O;intro w O;refine rO 4 I ?_;clear I a;refine u1 2 (ad rfl rfl) ?_;intro a I;replace I:=I.kp [0,1,2,19,20] rfl;have el:hs.length+1=(hs++[(⟨(v23:Int),s29⟩:NL)]).length:=by simp
           have hS2:=fW (O.p 1) el (cs':=(hs++[(⟨(v23:Int),s29⟩:NL)]).flatMap fX) (by rw[List.flatMap_append];rfl);rw[el]at hS2;have hS3:=iw (v23:Int) s29 ((((oK ((((hS2.p 7).p 7).p 7).p 7)).p 9).p 1))
           exact⟨v19-(i+1),by omega,i+1,hs++[(⟨(v23:Int),s29⟩:NL)],A42,c42,at28,I,((((((((((hS3.p 9).p 1).p 2).p 3).p 9).p 9).p 8).p 7).drop.p 7).drop.p 7).drop,by omega,by simp;omega,ha28,kB hbe hn23 (by rw[hst29]at hn28;exact hn28),(fun z hz=>by
            rcases List.mem_append.1 hz with hz | hz
            ·
             exact hgn z hz
            ·
             simp only[List.mem_singleton]at hz;subst hz;exact⟨by show (0:Int)≤(v23:Int);omega,by show (v23:Int)≤_;omega,hff29,hsm29⟩),rfl⟩
          ·replace O:Sat _ _ _:=O.ag hT;clear hT;refine⟨_,rfl,?_⟩;intro a I;refine⟨.inr fun _=>(by exact⟨[_,_,_,_,_,_,_],O⟩),?_⟩;refine rX [5] I ?_;clear I a;refine bx 6 [] rfl (fun w=>(an rfl rfl)) ?_;refine bx 7 [] rfl (fun w=>(an rfl rfl)) ?_;intro a I;refine aD 8 (by kernel_rfl) ?_;refine eN I rfl rfl vH O ?_;clear I a O;intro b5 w O;intro a I;refine⟨.inr fun _=>(by exact⟨[_,_,_,_,_,_,_,_],O⟩),?_⟩;refine aD 9 (by kernel_rfl) ?_;refine dr (vs:=[_,_,_,_]) (cs':=[_,_,_,_]) I rfl rfl rfl ke (by simp[Value.oneCell']) O rfl rfl ?_;clear O;intro w O;refine⟨.inr fun _=>(by exact⟨[_,_,_,_,_,_,_,_],O⟩),?_⟩;refine rX [10] I ?_;clear I a;intro a I;refine ah (by kernel_rfl) ?_ _;refine rE 5 I ?_;clear I a;refine u1 5 (et (aG rfl rfl) (by omega)) ?_;intro a I
           refine dX I rfl lR rfl (cQ _ _ _ r A c bs at28 8 (O.p 1) (by omega) (by omega) (fun w h=>hR.sat h)) ?_;rintro e w ⟨⟨older,rfl,ho⟩,at',hS'⟩
           ·refine .inr ⟨_,rfl,?_⟩;refine rE 5 I ?_;clear I a;intro a I;refine db I ?_;clear O;have O:=hS';clear hS';exact⟨at',8,false,_,.inr ⟨rfl,.inl ⟨older,rfl,ho⟩⟩,(((O.p 4).p 4).p 2),.inr ⟨rfl,by decide,we hbl hSp (by omega) hn23 hn28 hno29,(by exact⟨[_,_,_,_,_,_],rfl⟩)⟩⟩
         ·refine eN I rfl rfl vH O ?_;clear I a O;intro b5 w O;intro a I;refine⟨.inr fun _=>(by exact⟨[_,_,_,_,_,_,_,_],O⟩),?_⟩;refine aD 4 (by kernel_rfl) ?_;refine HK I rfl rfl (show rz Tryz.prog 109 "Unpack"=some 425 from by kernel_rfl) (show enters Tryz.prog 425=true from by kernel_rfl) rfl rfl (lW _ A28 c28 f28 (by omega) (O.p 2).rd) ?_;clear I a;rintro e w (⟨s29,hst29,hff29,hsm29,rfl,hT⟩ | ⟨hno29,rfl,hT⟩)
          ·replace O:Sat _ _ (_::_::_::_::_):=O.ag hT;clear hT;refine⟨_,rfl,?_⟩;intro a I;refine⟨.inr fun _=>(by exact⟨[_,_,_,_,_,_,_,_,_,_,_,_],O⟩),?_⟩;refine rX [5] I ?_;clear I a;refine bx 6 [] rfl (fun w=>(an rfl rfl)) ?_;refine bx 7 [] rfl (fun w=>(an rfl rfl)) ?_;intro a I;refine aD 9 (by kernel_rfl) ?_;refine dr (vs:=[_,_,_,_]) (cs':=[_,_,_,_]) I rfl rfl rfl ke (by simp[Value.oneCell']) (O.p 4) rfl rfl ?_;clear O;intro w O;refine⟨.inr fun _=>(by exact⟨[_,_,_,_,_,_,_,_,_,_,_,_],O⟩),?_⟩;refine rX [10] I ?_;clear I a;intro a I;refine ah (by kernel_rfl) ?_ _;refine rE 5 I ?_;clear I a;refine u1 6 (dY (aG rfl rfl) (by omega)) ?_;refine u1 0 (aa rfl ij) ?_;refine u1 1 (aj rfl z6 (by exact (O.p 9).cell rfl)) ?_;refine u1 0 (lS (cs:=[_,_,_,_]) rfl) ?_;intro a I;refine o1 0 I (aM I rfl qp) ?_;clear I a
           intro a I;refine jf (vss:=[[_,_,_,_,_]]) I rfl rfl l8 zx rfl rfl rfl (by simp) rfl O ?_;clear I a O;intro A41 w O;intro a I;refine dj I rfl rfl rfl l8 zx rfl (O.p 11) (O.rd.src l8 (by simp[Value.oneCell'])) (by omega) (by omega) ?_;clear I a O;intro A42 c42 w hc42 O;refine u1 0 (aa rfl ij) ?_;intro a I;refine mf (cs':=[_,_,_]) I rfl rfl z6 FO rfl (O.p 11) rfl rfl ?_;clear O;intro w O;refine rO 4 I ?_;clear I a;refine u1 2 (ad rfl rfl) ?_;intro a I;replace I:=I.kp [0,1,2,19,20] rfl;have el:hs.length+1=(hs++[(⟨(v23:Int),s29⟩:NL)]).length:=by simp
           have hS2:=fW (O.p 1) el (cs':=(hs++[(⟨(v23:Int),s29⟩:NL)]).flatMap fX) (by rw[List.flatMap_append];rfl);rw[el]at hS2;have hS3:=iw (v23:Int) s29 ((((oK ((((hS2.p 7).p 7).p 7).p 7)).p 9).p 1))
           exact⟨v19-(i+1),by omega,i+1,hs++[(⟨(v23:Int),s29⟩:NL)],A42,c42,at28,I,((((((((((hS3.p 9).p 1).p 2).p 3).p 9).p 9).p 8).p 7).drop.p 7).drop.p 7).drop,by omega,by simp;omega,ha28,kB hbe hn23 (by rw[hst29]at hn28;exact hn28),(fun z hz=>by
            rcases List.mem_append.1 hz with hz | hz
            ·
             exact hgn z hz
            ·
             simp only[List.mem_singleton]at hz;subst hz;exact⟨by show (0:Int)≤(v23:Int);omega,by show (v23:Int)≤_;omega,hff29,hsm29⟩),rfl⟩
          ·replace O:Sat _ _ _:=O.ag hT;clear hT;refine⟨_,rfl,?_⟩;intro a I;refine⟨.inr fun _=>(by exact⟨[_,_,_,_,_,_,_,_],O⟩),?_⟩;refine rX [5] I ?_;clear I a;refine bx 6 [] rfl (fun w=>(an rfl rfl)) ?_;refine bx 7 [] rfl (fun w=>(an rfl rfl)) ?_;intro a I;refine aD 9 (by kernel_rfl) ?_;refine dr (vs:=[_,_,_,_]) (cs':=[_,_,_,_]) I rfl rfl rfl ke (by simp[Value.oneCell']) O rfl rfl ?_;clear O;intro w O;refine⟨.inr fun _=>(by exact⟨[_,_,_,_,_,_,_,_],O⟩),?_⟩;refine rX [10] I ?_;clear I a;intro a I;refine ah (by kernel_rfl) ?_ _;refine rE 5 I ?_;clear I a;refine u1 5 (et (aG rfl rfl) (by omega)) ?_;intro a I;refine dX I rfl lR rfl (cQ _ _ _ r A c bs at28 8 (O.p 1) (by omega) (by omega) (fun w h=>hR.sat h)) ?_;rintro e w ⟨⟨older,rfl,ho⟩,at',hS'⟩
           ·refine .inr ⟨_,rfl,?_⟩;refine rE 5 I ?_;clear I a;intro a I;refine db I ?_;clear O;have O:=hS';clear hS';exact⟨at',8,false,_,.inr ⟨rfl,.inl ⟨older,rfl,ho⟩⟩,(((O.p 4).p 4).p 2),.inr ⟨rfl,by decide,we hbl hSp (by omega) hn23 hn28 hno29,(by exact⟨[_,_,_,_,_,_],rfl⟩)⟩⟩
        ·refine eN I rfl rfl vH O ?_;clear I a O;intro b5 w O;intro a I;refine⟨.inr fun _=>(by exact⟨[_,_,_,_,_,_,_],O⟩),?_⟩;refine aD 3 (by kernel_rfl) ?_;refine GD I rfl rfl tD rfl (eX _ _ _ r A c bs at23 9223372036854775807 (O.p 1) (by omega) (by omega) (fun w h=>hR.sat h)) ?_;rintro e w (⟨f28,at28,A28,c28,hn28,ha28,hl28,rfl,hS'⟩ | ⟨hn28,⟨older,rfl,ho⟩,at',er,hne,hS'⟩)
         rotate_left 1
         ·refine .inr ⟨_,rfl,?_⟩;refine rE 5 I ?_;clear I a;intro a I;refine db I ?_;clear O;have O:=hS';clear hS';exact⟨at',er,false,_,.inr ⟨rfl,.inl ⟨older,rfl,ho⟩⟩,(((O.p 3).p 3).p 2),.inr ⟨rfl,hne,tf hbl hSp (by omega) hn23 hn28,(by exact⟨[_,_,_,_,_],rfl⟩)⟩⟩
         clear O;have O:=hS';clear hS';refine .inl ⟨_,rfl,?_⟩;clear I a;intro a I;refine⟨.inr fun _=>(by exact⟨[_,_,_,_,_,_,_,_],O⟩),?_⟩;refine aD 4 (by kernel_rfl) ?_;refine HK I rfl rfl (show rz Tryz.prog 109 "Unpack"=some 425 from by kernel_rfl) (show enters Tryz.prog 425=true from by kernel_rfl) rfl rfl (lW _ A28 c28 f28 (by omega) (O.p 1).rd) ?_;clear I a;rintro e w (⟨s29,hst29,hff29,hsm29,rfl,hT⟩ | ⟨hno29,rfl,hT⟩)
         ·replace O:Sat _ _ (_::_::_::_::_):=O.ag hT;clear hT;refine⟨_,rfl,?_⟩;intro a I;refine⟨.inr fun _=>(by exact⟨[_,_,_,_,_,_,_,_,_,_,_,_],O⟩),?_⟩;refine rX [5] I ?_;clear I a;refine bx 6 [] rfl (fun w=>(an rfl rfl)) ?_;refine bx 7 [] rfl (fun w=>(an rfl rfl)) ?_;intro a I;refine aD 9 (by kernel_rfl) ?_;refine dr (vs:=[_,_,_,_]) (cs':=[_,_,_,_]) I rfl rfl rfl ke (by simp[Value.oneCell']) (O.p 6) rfl rfl ?_;clear O;intro w O;refine⟨.inr fun _=>(by exact⟨[_,_,_,_,_,_,_,_,_,_,_,_],O⟩),?_⟩;refine rX [10] I ?_;clear I a;intro a I;refine ah (by kernel_rfl) ?_ _;refine rE 5 I ?_;clear I a;refine u1 6 (dY (aG rfl rfl) (by omega)) ?_;refine u1 0 (aa rfl ij) ?_;refine u1 1 (aj rfl z6 (by exact (O.p 9).cell rfl)) ?_;refine u1 0 (lS (cs:=[_,_,_,_]) rfl) ?_;intro a I;refine o1 0 I (aM I rfl qp) ?_;clear I a
          intro a I;refine jf (vss:=[[_,_,_,_,_]]) I rfl rfl l8 zx rfl rfl rfl (by simp) rfl O ?_;clear I a O;intro A41 w O;intro a I;refine dj I rfl rfl rfl l8 zx rfl (O.p 11) (O.rd.src l8 (by simp[Value.oneCell'])) (by omega) (by omega) ?_;clear I a O;intro A42 c42 w hc42 O;refine u1 0 (aa rfl ij) ?_;intro a I;refine mf (cs':=[_,_,_]) I rfl rfl z6 FO rfl (O.p 11) rfl rfl ?_;clear O;intro w O;refine rO 4 I ?_;clear I a;refine u1 2 (ad rfl rfl) ?_;intro a I;replace I:=I.kp [0,1,2,19,20] rfl;have el:hs.length+1=(hs++[(⟨(v23:Int),s29⟩:NL)]).length:=by simp
          have hS2:=fW (O.p 1) el (cs':=(hs++[(⟨(v23:Int),s29⟩:NL)]).flatMap fX) (by rw[List.flatMap_append];rfl);rw[el]at hS2;have hS3:=iw (v23:Int) s29 ((((oK ((((hS2.p 7).p 7).p 7).p 7)).p 9).p 1))
          exact⟨v19-(i+1),by omega,i+1,hs++[(⟨(v23:Int),s29⟩:NL)],A42,c42,at28,I,((((((((((hS3.p 9).p 1).p 2).p 3).p 9).p 9).p 8).p 7).drop.p 7).drop.p 7).drop,by omega,by simp;omega,ha28,kB hbe hn23 (by rw[hst29]at hn28;exact hn28),(fun z hz=>by
           rcases List.mem_append.1 hz with hz | hz
           ·
            exact hgn z hz
           ·
            simp only[List.mem_singleton]at hz;subst hz;exact⟨by show (0:Int)≤(v23:Int);omega,by show (v23:Int)≤_;omega,hff29,hsm29⟩),rfl⟩
         ·replace O:Sat _ _ _:=O.ag hT;clear hT;refine⟨_,rfl,?_⟩;intro a I;refine⟨.inr fun _=>(by exact⟨[_,_,_,_,_,_,_,_],O⟩),?_⟩;refine rX [5] I ?_;clear I a;refine bx 6 [] rfl (fun w=>(an rfl rfl)) ?_;refine bx 7 [] rfl (fun w=>(an rfl rfl)) ?_;intro a I;refine aD 9 (by kernel_rfl) ?_;refine dr (vs:=[_,_,_,_]) (cs':=[_,_,_,_]) I rfl rfl rfl ke (by simp[Value.oneCell']) (O.p 2) rfl rfl ?_;clear O;intro w O;refine⟨.inr fun _=>(by exact⟨[_,_,_,_,_,_,_,_],O⟩),?_⟩;refine rX [10] I ?_;clear I a;intro a I;refine ah (by kernel_rfl) ?_ _;refine rE 5 I ?_;clear I a;refine u1 5 (et (aG rfl rfl) (by omega)) ?_;intro a I;refine dX I rfl lR rfl (cQ _ _ _ r A c bs at28 8 (O.p 1) (by omega) (by omega) (fun w h=>hR.sat h)) ?_;rintro e w ⟨⟨older,rfl,ho⟩,at',hS'⟩
          ·refine .inr ⟨_,rfl,?_⟩;refine rE 5 I ?_;clear I a;intro a I;refine db I ?_;clear O;have O:=hS';clear hS';exact⟨at',8,false,_,.inr ⟨rfl,.inl ⟨older,rfl,ho⟩⟩,(((O.p 4).p 4).p 2),.inr ⟨rfl,by decide,we hbl hSp (by omega) hn23 hn28 hno29,(by exact⟨[_,_,_,_,_,_],rfl⟩)⟩⟩
       ·refine .inr ⟨_,rfl,?_⟩;refine rE 5 I ?_;clear I a;intro a I;refine db I ?_;clear O;have O:=hS';clear hS';exact⟨at',er,false,_,.inr ⟨rfl,.inl ⟨older,rfl,ho⟩⟩,(((O.p 2).p 2).p 2),.inr ⟨rfl,hne,B4 hSp (by omega) hn23,(by exact⟨[_,_,_,_],rfl⟩)⟩⟩
      ·intro h21;refine uO 8 ?_;intro a I;refine fL (e:=.ret) ?_;refine ji I rfl  ?_;obtain rfl:i=v19:=by omega
       subst hhl;exact⟨(at1:Int),0,true,_,.inl ⟨rfl,rfl⟩,O,.inl ⟨rfl,rfl,v13,v16,hs,Ah,ch_,at1,rfl,hat1,hbe,hv13,hv16,hgn,by omega,rfl⟩⟩
     ·refine .inr ⟨_,rfl,?_⟩;refine rE 1 I ?_;clear I a;intro a I;refine db I ?_;clear O;have O:=hS';clear hS';exact⟨at',er,false,_,.inr ⟨rfl,.inl ⟨older,rfl,ho⟩⟩,(((O.p 3).p 3).p 2),.inr ⟨rfl,hne,J7 hn8 hn13 hn16 hn19,(by exact⟨[_,_],rfl⟩)⟩⟩
    ·refine .inr ⟨_,rfl,?_⟩;refine rE 1 I ?_;clear I a;intro a I;refine db I ?_;clear O;have O:=hS';clear hS';exact⟨at',er,false,_,.inr ⟨rfl,.inl ⟨older,rfl,ho⟩⟩,(((O.p 3).p 3).p 2),.inr ⟨rfl,hne,Kd hn8 hn13 hn16,(by exact⟨[_,_],rfl⟩)⟩⟩
   ·refine .inr ⟨_,rfl,?_⟩;refine rE 1 I ?_;clear I a;intro a I;refine db I ?_;clear O;have O:=hS';clear hS';exact⟨at',er,false,_,.inr ⟨rfl,.inl ⟨older,rfl,ho⟩⟩,(((O.p 2).p 2).p 2),.inr ⟨rfl,hne,Ka hn8 hn13,(by exact⟨[_,_],rfl⟩)⟩⟩
 ·refine .inr ⟨_,rfl,?_⟩;refine rE 2 I ?_;clear I a;intro a I;refine db I ?_;clear O;have O:=hS';clear hS';exact⟨at',er,false,_,.inr ⟨rfl,.inl ⟨older,rfl,ho⟩⟩,(((O.p 2).p 2).p 2),.inr ⟨rfl,hne,Ke (by rw[List.drop_zero]at hn8;exact hn8),(by exact⟨[_,_],rfl⟩)⟩⟩
def GI (bs:List UInt8)(b7 bE:Nat)(L:List As)(at' err:Int)(ok:Bool)(M:List As):Prop:=(ok=true∧err=0∧∃(s n:Nat) (hs:List NL) (Ah:Option Addr) (ch_ a:Nat),at'=(a:Int)∧a≤bs.length∧bs=dv s n hs.length++(bg 2 (hs.map NL.d)++bs.drop a)∧(s:Int)≤16∧(n:Int)≤4611686018427387904∧zM bz hs∧hs.length * 2≤bs.length∧M=a6 b7 (.cells #[.int .i64 (s:Int),.int .i64 (n:Int),.slice Ah hs.length ch_] 50)::row 74 5 (.slice Ah hs.length ch_) hs.length (hs.flatMap fX)::fe 216 3 219 206 hs::a6 bE (.cells #[] 94)::L)∨(ok=false∧err≠0∧k9 2 bz bs∧∃N:List As,M=N++L)
theorem yL (W w:World)(L:List As)(r q p b7 bE:Nat)(A:Option Addr)(c:Nat)(bs:List UInt8)(O:Sat W w (gU r A c bs 0 true 0::iq q r::gV p 0::a6 b7 (.cells #[.int .i64 0,.int .i64 0,.slice none 0 0] 50)::a6 bE (.cells #[] 94)::L))(hb:bs.length≤16777216)(hR:Rd W 1 (.slice A bs.length c) bs.length (bs.map ai)):Calls Tryz.prog 104 #[.pointer (some ⟨r,0,none⟩),.pointer (some ⟨b7,0,none⟩),.pointer (some ⟨bE,0,none⟩)] w fun e w'=>∃(at' err:Int) (ok:Bool) (M:List As),AX r ok e∧Sat W w' (gU r A c bs at' true err::iq q r::gV p 0::M)∧GI bs b7 bE L at' err ok M:=by
 refine bP Tryz.func104 [0,1,2] ?_;have hbl:bs.length≤16777216:=hb;intro a I;change Sat W w (gU r A c bs ((0:Nat):Int) true 0::_) at O;refine rC 4 I ?_;clear I a;intro a I;refine dX I rfl gO rfl (cg _ _ _ r A c bs 0 3 O (by omega) (by omega) (fun w h=>hR.sat h)) ?_;rintro e w (⟨v8,at8,hn8,ha8,hv8,hw8,rfl,hS'⟩ | ⟨hn8,⟨older,rfl,ho⟩,at',er,hne,hS'⟩)
 ·clear O;have O:=hS';clear hS';refine .inl ⟨_,rfl,?_⟩;clear I a;intro a I
  try rw[List.drop_zero]at hn8
  refine JD 0 0 I (aG (I.ev rfl) (I.ev rfl)) ?_ ?_
  ·clear I a;intro h9;refine uO 5 ?_;intro a I;refine dX I rfl lR rfl (cQ _ _ _ r A c bs at8 8 O (by omega) (by omega) (fun w h=>hR.sat h)) ?_;rintro e w ⟨⟨older,rfl,ho⟩,at',hS'⟩
   ·refine .inr ⟨_,rfl,?_⟩;refine rE 1 I ?_;clear I a;intro a I;refine db I ?_;clear O;have O:=hS';clear hS';exact⟨at',8,false,_,.inr ⟨rfl,.inl ⟨older,rfl,ho⟩⟩,O,.inr ⟨rfl,by decide,Kf hn8 (by omega),(by exact⟨[_,_],rfl⟩)⟩⟩
  ·clear I a;intro h9;refine uO 8 ?_;intro a I;refine dX I rfl gO rfl (cg _ _ _ r A c bs at8 16 O (by omega) (by omega) (fun w h=>hR.sat h)) ?_;rintro e w (⟨v13,at13,hn13,ha13,hv13,hw13,rfl,hS'⟩ | ⟨hn13,⟨older,rfl,ho⟩,at',er,hne,hS'⟩)
   ·clear O;have O:=hS';clear hS';refine .inl ⟨_,rfl,?_⟩;clear I a;refine u1 0 (aa rfl ve) ?_;intro a I;refine mf (cs':=[_,_,_]) I rfl rfl dE fO rfl (O.p 3) rfl rfl ?_;clear O;intro w O;refine rO 5 I ?_;clear I a;intro a I;refine dX I rfl gO rfl (cg _ _ _ r A c bs at13 4611686018427387904 (O.p 1) (by omega) (by omega) (fun w h=>hR.sat h)) ?_;rintro e w (⟨v16,at16,hn16,ha16,hv16,hw16,rfl,hS'⟩ | ⟨hn16,⟨older,rfl,ho⟩,at',er,hne,hS'⟩)
    ·clear O;have O:=hS';clear hS';refine .inl ⟨_,rfl,?_⟩;clear I a;refine u1 0 (aa rfl vq) ?_;intro a I;refine mf (cs':=[_,_,_]) I rfl rfl dE fO rfl (O.p 1) rfl rfl ?_;clear O;intro w O;refine rO 5 I ?_;clear I a;intro a I;refine dX I rfl zE rfl (gP _ _ _ r A c bs at16 2 (O.p 1) (by omega) (by omega) (fun w h=>hR.sat h) (by decide) (by decide)) ?_;rintro e w (⟨v19,at19,hn19,ha19,hk19,rfl,hS'⟩ | ⟨hn19,⟨older,rfl,ho⟩,at',er,hne,hS'⟩)
     ·clear O;have O:=hS';clear hS';rw[show (2:Int).toNat=2 from rfl]at hk19;refine .inl ⟨_,rfl,?_⟩;clear I a;refine uO 4 ?_;intro a I;refine wp_loop_ghost (fun (mm:Nat) a w=>∃(i:Nat) (hs:List NL) (Ah:Option Addr) (ch_ at1:Nat),Ag a 45 [(0,.pointer (some ⟨r,0,none⟩)),(1,.pointer (some ⟨b7,0,none⟩)),(2,.pointer (some ⟨bE,0,none⟩)),(19,.int .i64 ((v19:Nat):Int)),(20,.int .i64 ((i:Nat):Int))]∧Sat W w (gU r A c bs (at1:Int) true 0::iq q r::gV p 0::a6 b7 (.cells #[.int .i64 (v13:Int),.int .i64 (v16:Int),.slice Ah hs.length ch_] 50)::row 74 5 (.slice Ah hs.length ch_) hs.length (hs.flatMap fX)::fe 216 3 219 206 hs::a6 bE (.cells #[] 94)::L)∧(i≤v19)∧(hs.length=i)∧(at1≤bs.length)∧(bs=dv v13 v16 v19++(bg 2 (hs.map NL.d)++bs.drop at1))∧(zM bz hs)∧mm=v19-i) v19 ?_ ?_
      ·replace I:=I.kp [0,1,2,19,20] rfl;exact⟨0,[],none,0,at19,I,((O.kM.aX 74 5) |> fun z=>((((((z.p 1).p 1).p 3).p 5).p 5).p 5)),(by omega),(by rfl),(by omega),(by exact uo hn8 (by omega) hn13 hn16 hn19),(by intro h hh;cases hh),by omega⟩
      intro m a w hI;clear O I;obtain⟨i,hs,Ah,ch_,at1,I,O,hi,hhl,hat1,hbe,hgn,rfl⟩:=hI;refine rC 2 I ?_;clear I a;refine aK 0 0 (aq rfl rfl) ?_ ?_
      ·intro h21;have hSp:=fun d hd e=>jd (d:=d) (f:=bz) (by decide) (fun d hd=>dZ hd) hbl (by omega) (by omega) (by omega) hgn (by omega) hbe hd e
       refine uO 11 ?_;intro a I;refine dX I rfl gO rfl (cg _ _ _ r A c bs at1 64 O (by omega) (by omega) (fun w h=>hR.sat h)) ?_;rintro e w (⟨v23,at23,hn23,ha23,hv23,hw23,rfl,hS'⟩ | ⟨hn23,⟨older,rfl,ho⟩,at',er,hne,hS'⟩)
       ·clear O;have O:=hS';clear hS';refine .inl ⟨_,rfl,?_⟩;clear I a;refine uO 4 ?_;intro a I;refine ja [] (lq W (a6 bE (.cells #[] 94)::L)) (by kernel_rfl) ?_;replace O:=O.drew;refine X1 0 [] I rfl (by exact⟨[_,_,_,_,_,_],O⟩) (fun w hT=>have O:=hT.sat;(ax (cs:=[]) (I.ev rfl) JZ JS (by exact O.aF (xs:=[]) rfl))) ?_;clear I a;refine bx 1 [2] rfl (fun w=>(yQ rfl Iv)) ?_;intro a I;refine nr 3 8 (by kernel_rfl) ?_ ?_
        ·refine GD I rfl rfl tD rfl (eX _ _ _ r A c bs at23 9223372036854775807 O (by omega) (by omega) (fun w h=>hR.sat h)) ?_;rintro e w (⟨f28,at28,A28,c28,hn28,ha28,hl28,rfl,hS'⟩ | ⟨hn28,⟨older,rfl,ho⟩,at',er,hne,hS'⟩)
         rotate_left 1
         ·refine .inr ⟨_,rfl,?_⟩;refine rE 5 I ?_;clear I a;intro a I;refine db I ?_;clear O;have O:=hS';clear hS';exact⟨at',er,false,_,.inr ⟨rfl,.inl ⟨older,rfl,ho⟩⟩,(((O.p 2).p 2).p 2),.inr ⟨rfl,hne,tf hbl hSp (by omega) hn23 hn28,(by exact⟨[_,_,_,_],rfl⟩)⟩⟩
         clear O;have O:=hS';clear hS';refine .inl ⟨_,rfl,?_⟩;clear I a;intro a I;refine⟨.inr fun _=>(by exact⟨[_,_,_,_,_,_,_],O⟩),?_⟩;refine nr 4 8 (by kernel_rfl) ?_ ?_
         ·refine HK I rfl rfl (show rz Tryz.prog 94 "Unpack"=some 333 from by kernel_rfl) (show enters Tryz.prog 333=true from by kernel_rfl) rfl rfl (lZ _ A28 c28 f28 (by omega) (O.p 1).rd) ?_;clear I a;rintro e w (⟨s29,hst29,hff29,hsm29,rfl,hT⟩ | ⟨hno29,rfl,hT⟩)
          ·replace O:Sat _ _ (_::_::_::_::_):=O.ag hT;clear hT;refine⟨_,rfl,?_⟩;intro a I;refine⟨.inr fun _=>(by exact⟨[_,_,_,_,_,_,_,_,_,_,_],O⟩),?_⟩;refine rX [5] I ?_;clear I a;refine bx 6 [] rfl (fun w=>(an rfl rfl)) ?_;refine bx 7 [] rfl (fun w=>(an rfl rfl)) ?_;intro a I;refine aD 8 (by kernel_rfl) ?_;refine eN I rfl rfl yW O ?_;clear I a O;intro b5 w O;intro a I;refine⟨.inr fun _=>(by exact⟨[_,_,_,_,_,_,_,_,_,_,_,_],O⟩),?_⟩;refine aD 9 (by kernel_rfl) ?_;refine dr (vs:=[_,_,_,_]) (cs':=[_,_,_,_]) I rfl rfl rfl lv (by simp[Value.oneCell']) O rfl rfl ?_;clear O;intro w O;refine⟨.inr fun _=>(by exact⟨[_,_,_,_,_,_,_,_,_,_,_,_],O⟩),?_⟩;refine rX [10] I ?_;clear I a;intro a I;refine ah (by kernel_rfl) ?_ _;refine rE 5 I ?_;clear I a
           refine u1 6 (dY (aG rfl rfl) (by omega)) ?_;refine u1 0 (aa rfl ig) ?_;refine u1 1 (aj rfl Ay (by exact (O.p 9).cell rfl)) ?_;refine u1 0 (lS (cs:=[_,_,_,_]) rfl) ?_;intro a I;refine o1 0 I (aM I rfl qh) ?_;clear I a;intro a I;refine jf (vss:=[[_,_,_,_,_]]) I rfl rfl lV zL rfl rfl rfl (by simp) rfl O ?_;clear I a O;intro A41 w O;intro a I;refine dj I rfl rfl rfl lV zL rfl (O.p 11) (O.rd.src lV (by simp[Value.oneCell'])) (by omega) (by omega) ?_;clear I a O;intro A42 c42 w hc42 O;refine u1 0 (aa rfl ig) ?_;intro a I;refine mf (cs':=[_,_,_]) I rfl rfl Ay FX rfl (O.p 11) rfl rfl ?_;clear O;intro w O;refine rO 4 I ?_;clear I a;refine u1 2 (ad rfl rfl) ?_;intro a I;replace I:=I.kp [0,1,2,19,20] rfl;have el:hs.length+1=(hs++[(⟨(v23:Int),s29⟩:NL)]).length:=by simp
           have hS2:=fW (O.p 1) el (cs':=(hs++[(⟨(v23:Int),s29⟩:NL)]).flatMap fX) (by rw[List.flatMap_append];rfl);rw[el]at hS2;have hS3:=iw (v23:Int) s29 ((((oK ((((hS2.p 7).p 7).p 7).p 7)).p 9).p 1))
           exact⟨v19-(i+1),by omega,i+1,hs++[(⟨(v23:Int),s29⟩:NL)],A42,c42,at28,I,((((((((((hS3.p 9).p 1).p 2).p 3).p 9).p 9).p 8).p 7).drop.p 7).drop.p 7).drop,by omega,by simp;omega,ha28,kB hbe hn23 (by rw[hst29]at hn28;exact hn28),(fun z hz=>by
            rcases List.mem_append.1 hz with hz | hz
            ·
             exact hgn z hz
            ·
             simp only[List.mem_singleton]at hz;subst hz;exact⟨by show (0:Int)≤(v23:Int);omega,by show (v23:Int)≤_;omega,hff29,hsm29⟩),rfl⟩
          ·replace O:Sat _ _ _:=O.ag hT;clear hT;refine⟨_,rfl,?_⟩;intro a I;refine⟨.inr fun _=>(by exact⟨[_,_,_,_,_,_,_],O⟩),?_⟩;refine rX [5] I ?_;clear I a;refine bx 6 [] rfl (fun w=>(an rfl rfl)) ?_;refine bx 7 [] rfl (fun w=>(an rfl rfl)) ?_;intro a I;refine aD 8 (by kernel_rfl) ?_;refine eN I rfl rfl yW O ?_;clear I a O;intro b5 w O;intro a I;refine⟨.inr fun _=>(by exact⟨[_,_,_,_,_,_,_,_],O⟩),?_⟩;refine aD 9 (by kernel_rfl) ?_;refine dr (vs:=[_,_,_,_]) (cs':=[_,_,_,_]) I rfl rfl rfl lv (by simp[Value.oneCell']) O rfl rfl ?_;clear O;intro w O;refine⟨.inr fun _=>(by exact⟨[_,_,_,_,_,_,_,_],O⟩),?_⟩;refine rX [10] I ?_;clear I a;intro a I;refine ah (by kernel_rfl) ?_ _;refine rE 5 I ?_;clear I a;refine u1 5 (et (aG rfl rfl) (by omega)) ?_;intro a I
           refine dX I rfl lR rfl (cQ _ _ _ r A c bs at28 8 (O.p 1) (by omega) (by omega) (fun w h=>hR.sat h)) ?_;rintro e w ⟨⟨older,rfl,ho⟩,at',hS'⟩
           ·refine .inr ⟨_,rfl,?_⟩;refine rE 5 I ?_;clear I a;intro a I;refine db I ?_;clear O;have O:=hS';clear hS';exact⟨at',8,false,_,.inr ⟨rfl,.inl ⟨older,rfl,ho⟩⟩,(((O.p 4).p 4).p 2),.inr ⟨rfl,by decide,we hbl hSp (by omega) hn23 hn28 hno29,(by exact⟨[_,_,_,_,_,_],rfl⟩)⟩⟩
         ·refine eN I rfl rfl yW O ?_;clear I a O;intro b5 w O;intro a I;refine⟨.inr fun _=>(by exact⟨[_,_,_,_,_,_,_,_],O⟩),?_⟩;refine aD 4 (by kernel_rfl) ?_;refine HK I rfl rfl (show rz Tryz.prog 94 "Unpack"=some 333 from by kernel_rfl) (show enters Tryz.prog 333=true from by kernel_rfl) rfl rfl (lZ _ A28 c28 f28 (by omega) (O.p 2).rd) ?_;clear I a;rintro e w (⟨s29,hst29,hff29,hsm29,rfl,hT⟩ | ⟨hno29,rfl,hT⟩)
          ·replace O:Sat _ _ (_::_::_::_::_):=O.ag hT;clear hT;refine⟨_,rfl,?_⟩;intro a I;refine⟨.inr fun _=>(by exact⟨[_,_,_,_,_,_,_,_,_,_,_,_],O⟩),?_⟩;refine rX [5] I ?_;clear I a;refine bx 6 [] rfl (fun w=>(an rfl rfl)) ?_;refine bx 7 [] rfl (fun w=>(an rfl rfl)) ?_;intro a I;refine aD 9 (by kernel_rfl) ?_;refine dr (vs:=[_,_,_,_]) (cs':=[_,_,_,_]) I rfl rfl rfl lv (by simp[Value.oneCell']) (O.p 4) rfl rfl ?_;clear O;intro w O;refine⟨.inr fun _=>(by exact⟨[_,_,_,_,_,_,_,_,_,_,_,_],O⟩),?_⟩;refine rX [10] I ?_;clear I a;intro a I;refine ah (by kernel_rfl) ?_ _;refine rE 5 I ?_;clear I a;refine u1 6 (dY (aG rfl rfl) (by omega)) ?_;refine u1 0 (aa rfl ig) ?_;refine u1 1 (aj rfl Ay (by exact (O.p 9).cell rfl)) ?_;refine u1 0 (lS (cs:=[_,_,_,_]) rfl) ?_;intro a I;refine o1 0 I (aM I rfl qh) ?_;clear I a
           intro a I;refine jf (vss:=[[_,_,_,_,_]]) I rfl rfl lV zL rfl rfl rfl (by simp) rfl O ?_;clear I a O;intro A41 w O;intro a I;refine dj I rfl rfl rfl lV zL rfl (O.p 11) (O.rd.src lV (by simp[Value.oneCell'])) (by omega) (by omega) ?_;clear I a O;intro A42 c42 w hc42 O;refine u1 0 (aa rfl ig) ?_;intro a I;refine mf (cs':=[_,_,_]) I rfl rfl Ay FX rfl (O.p 11) rfl rfl ?_;clear O;intro w O;refine rO 4 I ?_;clear I a;refine u1 2 (ad rfl rfl) ?_;intro a I;replace I:=I.kp [0,1,2,19,20] rfl;have el:hs.length+1=(hs++[(⟨(v23:Int),s29⟩:NL)]).length:=by simp
           have hS2:=fW (O.p 1) el (cs':=(hs++[(⟨(v23:Int),s29⟩:NL)]).flatMap fX) (by rw[List.flatMap_append];rfl);rw[el]at hS2;have hS3:=iw (v23:Int) s29 ((((oK ((((hS2.p 7).p 7).p 7).p 7)).p 9).p 1))
           exact⟨v19-(i+1),by omega,i+1,hs++[(⟨(v23:Int),s29⟩:NL)],A42,c42,at28,I,((((((((((hS3.p 9).p 1).p 2).p 3).p 9).p 9).p 8).p 7).drop.p 7).drop.p 7).drop,by omega,by simp;omega,ha28,kB hbe hn23 (by rw[hst29]at hn28;exact hn28),(fun z hz=>by
            rcases List.mem_append.1 hz with hz | hz
            ·
             exact hgn z hz
            ·
             simp only[List.mem_singleton]at hz;subst hz;exact⟨by show (0:Int)≤(v23:Int);omega,by show (v23:Int)≤_;omega,hff29,hsm29⟩),rfl⟩
          ·replace O:Sat _ _ _:=O.ag hT;clear hT;refine⟨_,rfl,?_⟩;intro a I;refine⟨.inr fun _=>(by exact⟨[_,_,_,_,_,_,_,_],O⟩),?_⟩;refine rX [5] I ?_;clear I a;refine bx 6 [] rfl (fun w=>(an rfl rfl)) ?_;refine bx 7 [] rfl (fun w=>(an rfl rfl)) ?_;intro a I;refine aD 9 (by kernel_rfl) ?_;refine dr (vs:=[_,_,_,_]) (cs':=[_,_,_,_]) I rfl rfl rfl lv (by simp[Value.oneCell']) O rfl rfl ?_;clear O;intro w O;refine⟨.inr fun _=>(by exact⟨[_,_,_,_,_,_,_,_],O⟩),?_⟩;refine rX [10] I ?_;clear I a;intro a I;refine ah (by kernel_rfl) ?_ _;refine rE 5 I ?_;clear I a;refine u1 5 (et (aG rfl rfl) (by omega)) ?_;intro a I;refine dX I rfl lR rfl (cQ _ _ _ r A c bs at28 8 (O.p 1) (by omega) (by omega) (fun w h=>hR.sat h)) ?_;rintro e w ⟨⟨older,rfl,ho⟩,at',hS'⟩
           ·refine .inr ⟨_,rfl,?_⟩;refine rE 5 I ?_;clear I a;intro a I;refine db I ?_;clear O;have O:=hS';clear hS';exact⟨at',8,false,_,.inr ⟨rfl,.inl ⟨older,rfl,ho⟩⟩,(((O.p 4).p 4).p 2),.inr ⟨rfl,by decide,we hbl hSp (by omega) hn23 hn28 hno29,(by exact⟨[_,_,_,_,_,_],rfl⟩)⟩⟩
        ·refine eN I rfl rfl yW O ?_;clear I a O;intro b5 w O;intro a I;refine⟨.inr fun _=>(by exact⟨[_,_,_,_,_,_,_],O⟩),?_⟩;refine aD 3 (by kernel_rfl) ?_;refine GD I rfl rfl tD rfl (eX _ _ _ r A c bs at23 9223372036854775807 (O.p 1) (by omega) (by omega) (fun w h=>hR.sat h)) ?_;rintro e w (⟨f28,at28,A28,c28,hn28,ha28,hl28,rfl,hS'⟩ | ⟨hn28,⟨older,rfl,ho⟩,at',er,hne,hS'⟩)
         rotate_left 1
         ·refine .inr ⟨_,rfl,?_⟩;refine rE 5 I ?_;clear I a;intro a I;refine db I ?_;clear O;have O:=hS';clear hS';exact⟨at',er,false,_,.inr ⟨rfl,.inl ⟨older,rfl,ho⟩⟩,(((O.p 3).p 3).p 2),.inr ⟨rfl,hne,tf hbl hSp (by omega) hn23 hn28,(by exact⟨[_,_,_,_,_],rfl⟩)⟩⟩
         clear O;have O:=hS';clear hS';refine .inl ⟨_,rfl,?_⟩;clear I a;intro a I;refine⟨.inr fun _=>(by exact⟨[_,_,_,_,_,_,_,_],O⟩),?_⟩;refine aD 4 (by kernel_rfl) ?_;refine HK I rfl rfl (show rz Tryz.prog 94 "Unpack"=some 333 from by kernel_rfl) (show enters Tryz.prog 333=true from by kernel_rfl) rfl rfl (lZ _ A28 c28 f28 (by omega) (O.p 1).rd) ?_;clear I a;rintro e w (⟨s29,hst29,hff29,hsm29,rfl,hT⟩ | ⟨hno29,rfl,hT⟩)
         ·replace O:Sat _ _ (_::_::_::_::_):=O.ag hT;clear hT;refine⟨_,rfl,?_⟩;intro a I;refine⟨.inr fun _=>(by exact⟨[_,_,_,_,_,_,_,_,_,_,_,_],O⟩),?_⟩;refine rX [5] I ?_;clear I a;refine bx 6 [] rfl (fun w=>(an rfl rfl)) ?_;refine bx 7 [] rfl (fun w=>(an rfl rfl)) ?_;intro a I;refine aD 9 (by kernel_rfl) ?_;refine dr (vs:=[_,_,_,_]) (cs':=[_,_,_,_]) I rfl rfl rfl lv (by simp[Value.oneCell']) (O.p 6) rfl rfl ?_;clear O;intro w O;refine⟨.inr fun _=>(by exact⟨[_,_,_,_,_,_,_,_,_,_,_,_],O⟩),?_⟩;refine rX [10] I ?_;clear I a;intro a I;refine ah (by kernel_rfl) ?_ _;refine rE 5 I ?_;clear I a;refine u1 6 (dY (aG rfl rfl) (by omega)) ?_;refine u1 0 (aa rfl ig) ?_;refine u1 1 (aj rfl Ay (by exact (O.p 9).cell rfl)) ?_;refine u1 0 (lS (cs:=[_,_,_,_]) rfl) ?_;intro a I;refine o1 0 I (aM I rfl qh) ?_;clear I a
          intro a I;refine jf (vss:=[[_,_,_,_,_]]) I rfl rfl lV zL rfl rfl rfl (by simp) rfl O ?_;clear I a O;intro A41 w O;intro a I;refine dj I rfl rfl rfl lV zL rfl (O.p 11) (O.rd.src lV (by simp[Value.oneCell'])) (by omega) (by omega) ?_;clear I a O;intro A42 c42 w hc42 O;refine u1 0 (aa rfl ig) ?_;intro a I;refine mf (cs':=[_,_,_]) I rfl rfl Ay FX rfl (O.p 11) rfl rfl ?_;clear O;intro w O;refine rO 4 I ?_;clear I a;refine u1 2 (ad rfl rfl) ?_;intro a I;replace I:=I.kp [0,1,2,19,20] rfl;have el:hs.length+1=(hs++[(⟨(v23:Int),s29⟩:NL)]).length:=by simp
          have hS2:=fW (O.p 1) el (cs':=(hs++[(⟨(v23:Int),s29⟩:NL)]).flatMap fX) (by rw[List.flatMap_append];rfl);rw[el]at hS2;have hS3:=iw (v23:Int) s29 ((((oK ((((hS2.p 7).p 7).p 7).p 7)).p 9).p 1))
          exact⟨v19-(i+1),by omega,i+1,hs++[(⟨(v23:Int),s29⟩:NL)],A42,c42,at28,I,((((((((((hS3.p 9).p 1).p 2).p 3).p 9).p 9).p 8).p 7).drop.p 7).drop.p 7).drop,by omega,by simp;omega,ha28,kB hbe hn23 (by rw[hst29]at hn28;exact hn28),(fun z hz=>by
           rcases List.mem_append.1 hz with hz | hz
           ·
            exact hgn z hz
           ·
            simp only[List.mem_singleton]at hz;subst hz;exact⟨by show (0:Int)≤(v23:Int);omega,by show (v23:Int)≤_;omega,hff29,hsm29⟩),rfl⟩
         ·replace O:Sat _ _ _:=O.ag hT;clear hT;refine⟨_,rfl,?_⟩;intro a I;refine⟨.inr fun _=>(by exact⟨[_,_,_,_,_,_,_,_],O⟩),?_⟩;refine rX [5] I ?_;clear I a;refine bx 6 [] rfl (fun w=>(an rfl rfl)) ?_;refine bx 7 [] rfl (fun w=>(an rfl rfl)) ?_;intro a I;refine aD 9 (by kernel_rfl) ?_;refine dr (vs:=[_,_,_,_]) (cs':=[_,_,_,_]) I rfl rfl rfl lv (by simp[Value.oneCell']) (O.p 2) rfl rfl ?_;clear O;intro w O;refine⟨.inr fun _=>(by exact⟨[_,_,_,_,_,_,_,_],O⟩),?_⟩;refine rX [10] I ?_;clear I a;intro a I;refine ah (by kernel_rfl) ?_ _;refine rE 5 I ?_;clear I a;refine u1 5 (et (aG rfl rfl) (by omega)) ?_;intro a I;refine dX I rfl lR rfl (cQ _ _ _ r A c bs at28 8 (O.p 1) (by omega) (by omega) (fun w h=>hR.sat h)) ?_;rintro e w ⟨⟨older,rfl,ho⟩,at',hS'⟩
          ·refine .inr ⟨_,rfl,?_⟩;refine rE 5 I ?_;clear I a;intro a I;refine db I ?_;clear O;have O:=hS';clear hS';exact⟨at',8,false,_,.inr ⟨rfl,.inl ⟨older,rfl,ho⟩⟩,(((O.p 4).p 4).p 2),.inr ⟨rfl,by decide,we hbl hSp (by omega) hn23 hn28 hno29,(by exact⟨[_,_,_,_,_,_],rfl⟩)⟩⟩
       ·refine .inr ⟨_,rfl,?_⟩;refine rE 5 I ?_;clear I a;intro a I;refine db I ?_;clear O;have O:=hS';clear hS';exact⟨at',er,false,_,.inr ⟨rfl,.inl ⟨older,rfl,ho⟩⟩,(((O.p 2).p 2).p 2),.inr ⟨rfl,hne,B4 hSp (by omega) hn23,(by exact⟨[_,_,_,_],rfl⟩)⟩⟩
      ·intro h21;refine uO 8 ?_;intro a I;refine fL (e:=.ret) ?_;refine ji I rfl  ?_;obtain rfl:i=v19:=by omega
       subst hhl;exact⟨(at1:Int),0,true,_,.inl ⟨rfl,rfl⟩,O,.inl ⟨rfl,rfl,v13,v16,hs,Ah,ch_,at1,rfl,hat1,hbe,hv13,hv16,hgn,by omega,rfl⟩⟩
     ·refine .inr ⟨_,rfl,?_⟩;refine rE 1 I ?_;clear I a;intro a I;refine db I ?_;clear O;have O:=hS';clear hS';exact⟨at',er,false,_,.inr ⟨rfl,.inl ⟨older,rfl,ho⟩⟩,(((O.p 3).p 3).p 2),.inr ⟨rfl,hne,J7 hn8 hn13 hn16 hn19,(by exact⟨[_,_],rfl⟩)⟩⟩
    ·refine .inr ⟨_,rfl,?_⟩;refine rE 1 I ?_;clear I a;intro a I;refine db I ?_;clear O;have O:=hS';clear hS';exact⟨at',er,false,_,.inr ⟨rfl,.inl ⟨older,rfl,ho⟩⟩,(((O.p 3).p 3).p 2),.inr ⟨rfl,hne,Kd hn8 hn13 hn16,(by exact⟨[_,_],rfl⟩)⟩⟩
   ·refine .inr ⟨_,rfl,?_⟩;refine rE 1 I ?_;clear I a;intro a I;refine db I ?_;clear O;have O:=hS';clear hS';exact⟨at',er,false,_,.inr ⟨rfl,.inl ⟨older,rfl,ho⟩⟩,(((O.p 2).p 2).p 2),.inr ⟨rfl,hne,Ka hn8 hn13,(by exact⟨[_,_],rfl⟩)⟩⟩
 ·refine .inr ⟨_,rfl,?_⟩;refine rE 2 I ?_;clear I a;intro a I;refine db I ?_;clear O;have O:=hS';clear hS';exact⟨at',er,false,_,.inr ⟨rfl,.inl ⟨older,rfl,ho⟩⟩,(((O.p 2).p 2).p 2),.inr ⟨rfl,hne,Ke (by rw[List.drop_zero]at hn8;exact hn8),(by exact⟨[_,_],rfl⟩)⟩⟩
theorem AY (W:World)(A:Option Addr)(c:Nat)(bs:List UInt8)(hb:bs.length≤16777216)(hR:Rd W 1 (.slice A bs.length c) bs.length (bs.map ai)):Calls Tryz.prog 48 #[.slice A (bs).length c] W fun e w'=>(∃d:DL,iV aB d.d=true∧bs=bh 1 d.d∧d.small∧e=.returned (.tuple #[.agg #[.int .i64 d.self,.int .i64 d.next,.slice d.a d.hs.length d.c],.int .i64 0])∧Sat W w' [d.ch 68 216 3 219 206])∨(nD 1 aB bs∧e=.returned (.tuple #[.agg #[.int .i64 0,.int .i64 0,.slice none 0 0],.int .i64 8])∧Sat W w' []):=by
 refine bP Tryz.func48 [0] ?_;have O:=Sat.start W;have hbl:(bs.take (bs.length-8)).length=bs.length-8:=by rw[List.length_take];omega
 refine uC 2 ?_;refine uN CV O ?_;clear O;intro b2 w O;refine uO 6 ?_;refine uF rfl (qX _ A c bs (hR.sat O) (by omega)) ?_;rintro e w (⟨hq,rfl,hT⟩ | ⟨hq,A',n',c',rfl,hT⟩)
 ·replace O:Sat _ _ _:=O.ag hT;clear hT;refine uO 1 ?_;refine u1 0 (an rfl rfl) ?_;refine ng 0 0 (an rfl rfl) ?_ ?_
  ·intro h13;intro a I;simp only[decide_eq_decide,decide_eq_true_eq,decide_eq_false_iff_not,Bool.not_eq_true',Bool.not_eq_false',bne_iff_ne,ne_eq,beq_iff_eq,Bool.not_eq_true,Bool.not_eq_false]at h13;refine rO 8 I ?_;clear I a;refine u1 7 (aI rfl) ?_;refine uN GH O ?_;clear O;intro b6 w O;refine uO 4 ?_;refine uN CV O ?_;clear O;intro b7 w O;refine uO 5 ?_;intro a I;refine o1 0 I (qn (I.ml rfl)) ?_;clear I a;refine uF rfl (jk _ _ _ A (bs.take (bs.length-8)).length (bs.take (bs.length-8)) (fun _ at' err ok M=>Gz (bs.take (bs.length-8)) b7 b6 [a6 b2 (.cells #[.int .i64 0,.int .i64 0,.slice none 0 0] 46)] at' err ok M) 99 [.pointer (some ⟨b7,0,none⟩),.pointer (some ⟨b6,0,none⟩)] O (by omega) J3 (fun w r q p O=>yC _ _ _ r q p b7 b6 A (bs.take (bs.length-8)).length (bs.take (bs.length-8)) O (by omega) (xC hR))) ?_
   rintro e w ⟨r9,q9,p9,at',err,ok,M,rfl,O,(⟨rfl,rfl,s,n,hs,Ah,ch_,ae,rfl,ha,hbe,hs16,hn62,hgn,hh2,rfl⟩ | ⟨rfl,hne,hno,N,rfl⟩)⟩
   ·replace O:=O.drop.drop.drop;refine uO 3 ?_;intro a I;replace I:=I.kp [2,3,7,8] rfl;refine rC 4 I ?_;clear I a;refine aK 0 0 (aG rfl rfl) ?_ ?_
    ·intro h21;refine uO 10 ?_;intro a I;refine o1 0 I (aM I rfl BE) ?_;clear I a;refine uW (vs:=[_,_,_]) (cs':=[_,_,_]) rfl rfl pY (O.p 4) ?_;clear O;intro w O;refine uO 5 ?_;intro a I;refine eu I rfl (de (cs:=[_,_,_]) I rfl Df pY (by exact O.aF (xs:=[_,_,_]) rfl)) (dm I rfl) ?_;rw[lU rfl]at h21;have hSp:=fun d hd e=>jd (d:=d) (f:=aB) (by decide) (fun d hd=>hd) (show (bs.take (bs.length-8)).length≤16777216 by omega) (by omega) (by omega) (by omega) hgn (Nat.le_refl _) hbe hd e
     exact .inr ⟨jc rfl (BQ hSp rfl (fun hd=>by have:=drop_nil ha hd;simp at h21;omega)),rfl,O.nil⟩
    ·intro h21;intro a I
     try (exfalso;rw[lh rfl,if_pos hne]at h21;exact h21 hne)
     refine rO 1 I ?_;clear I a;refine u1 0 (lS (cs:=[_,_,_]) rfl) ?_;refine jR rfl (o3 _ (⟨(s:Int),(n:Int),Ah,ch_,hs⟩:DL) ⟨(O.p 1).rd,im (O.p 2)⟩ ⟨by show hs.length≤_;omega,fun y hy=>(hgn y hy).2.2.2⟩) ?_;rintro e w ⟨rfl,hT⟩;replace O:Sat _ _ _:=O.ag hT;clear hT;cases h24:kb (DL.d (⟨(s:Int),(n:Int),Ah,ch_,hs⟩:DL))
     ·refine u1 6 (aI rfl) ?_;intro a I;refine o1 0 I (aM I rfl BE) ?_;clear I a;refine uW (vs:=[_,_,_]) (cs':=[_,_,_]) rfl rfl pY (O.p 4) ?_;clear O;intro w O;refine uO 5 ?_;intro a I;refine eu I rfl (de (cs:=[_,_,_]) I rfl Df pY (by exact O.aF (xs:=[_,_,_]) rfl)) (dm I rfl) ?_;have hSp:=fun d hd e=>jd (d:=d) (f:=aB) (by decide) (fun d hd=>hd) (show (bs.take (bs.length-8)).length≤16777216 by omega) (by omega) (by omega) (by omega) hgn (Nat.le_refl _) hbe hd e
      exact .inr ⟨jc rfl (fun d hd e=>by have oW:=fE hd;rw[Bu hSp rfl hd e]at oW;exact absurd oW (by rw[show (⟨(s:Int),(n:Int),hs.map NL.d⟩:dB)=DL.d (⟨(s:Int),(n:Int),Ah,ch_,hs⟩:DL) from rfl,h24];decide)),rfl,O.nil⟩
     ·refine u1 8 (aI rfl) ?_;refine u1 0 (lS (cs:=[_,_,_]) rfl) ?_;refine uW (vs:=[_,_,_]) (cs':=[_,_,_]) rfl rfl pY (O.p 4) ?_;clear O;intro w O;refine uO 4 ?_;intro a I;refine eu I rfl (de (cs:=[_,_,_]) I rfl Df pY (by exact O.aF (xs:=[_,_,_]) rfl)) (dm I rfl) ?_;rw[lU rfl]at h21;have hn9:(bs.take (bs.length-8)).drop ae=[]:=List.drop_of_length_le (by simp at h21;omega);rw[hn9,List.append_nil]at hbe
      have hbd:(bs.take (bs.length-8))=dn 1 (DL.d (⟨(s:Int),(n:Int),Ah,ch_,hs⟩:DL)):=by
       rw[hbe];unfold dn;show _=dv ((s:Int)).toNat ((n:Int)).toNat (hs.map NL.d).length++bg 1 (hs.map NL.d);rw[List.length_map,Int.toNat_natCast,Int.toNat_natCast]
      refine .inl ⟨(⟨(s:Int),(n:Int),Ah,ch_,hs⟩:DL),rD h24 (fun y hy=>?_),?_,⟨by show hs.length≤_;omega,fun y hy=>(hgn y hy).2.2.2⟩,rfl,?_⟩
      ·have hy:y∈hs.map NL.d:=hy;obtain⟨z,hz,rfl⟩:=List.mem_map.1 hy;exact (hgn z hz).2.2.1
      ·have h9:=hq.2;rw[hbd]at h9;exact h9
      ·exact bY (DL.D4 ((O.p 3).p 3))
   ·replace O:=oC O.drop.drop.drop;refine uO 3 ?_;intro a I;replace I:=I.kp [2,3,7,8] rfl;refine rC 4 I ?_;clear I a;refine aK 0 0 (aG rfl rfl) ?_ ?_
    ·intro h21;refine uO 10 ?_;intro a I;refine o1 0 I (aM I rfl BE) ?_;clear I a;refine uW (vs:=[_,_,_]) (cs':=[_,_,_]) rfl rfl pY O ?_;clear O;intro w O;refine uO 5 ?_;intro a I;refine eu I rfl (de (cs:=[_,_,_]) I rfl Df pY (by exact O.aF (xs:=[_,_,_]) rfl)) (dm I rfl) ?_;exact .inr ⟨jc rfl hno,rfl,O.nil⟩
    ·intro h21;intro a I
     try (exfalso;rw[lh rfl,if_pos hne]at h21;exact h21 hne)
  ·intro h13;intro a I;contradiction
 ·replace O:Sat _ _ _:=O.ag hT;clear hT;refine uO 1 ?_;refine u1 0 (an rfl rfl) ?_;refine ng 0 0 (an rfl rfl) ?_ ?_
  ·intro h13;intro a I;contradiction
  ·intro h13;intro a I;simp only[decide_eq_decide,decide_eq_true_eq,decide_eq_false_iff_not,Bool.not_eq_true',Bool.not_eq_false',bne_iff_ne,ne_eq,beq_iff_eq,Bool.not_eq_true,Bool.not_eq_false]at h13;refine rO 8 I ?_;clear I a;refine u1 5 (aI rfl) ?_;intro a I;refine o1 0 I (aM I rfl BE) ?_;clear I a;refine uW (vs:=[_,_,_]) (cs':=[_,_,_]) rfl rfl pY O ?_;clear O;intro w O;refine uO 5 ?_;intro a I;refine eu I rfl (de (cs:=[_,_,_]) I rfl Df pY (by exact O.aF (xs:=[_,_,_]) rfl)) (dm I rfl) ?_;exact .inr ⟨iR hq,rfl,O.nil⟩
theorem Bo (W:World)(A:Option Addr)(c:Nat)(bs:List UInt8)(hb:bs.length≤16777216)(hR:Rd W 1 (.slice A bs.length c) bs.length (bs.map ai)):Calls Tryz.prog 49 #[.slice A (bs).length c] W fun e w'=>(∃d:DL,iV bz d.d=true∧bs=bh 2 d.d∧d.small∧e=.returned (.tuple #[.agg #[.int .i64 d.self,.int .i64 d.next,.slice d.a d.hs.length d.c],.int .i64 0])∧Sat W w' [d.ch 74 216 3 219 206])∨(nD 2 bz bs∧e=.returned (.tuple #[.agg #[.int .i64 0,.int .i64 0,.slice none 0 0],.int .i64 8])∧Sat W w' []):=by
 refine bP Tryz.func49 [0] ?_;have O:=Sat.start W;have hbl:(bs.take (bs.length-8)).length=bs.length-8:=by rw[List.length_take];omega
 refine uC 2 ?_;refine uN Dc O ?_;clear O;intro b2 w O;refine uO 6 ?_;refine uF rfl (qX _ A c bs (hR.sat O) (by omega)) ?_;rintro e w (⟨hq,rfl,hT⟩ | ⟨hq,A',n',c',rfl,hT⟩)
 ·replace O:Sat _ _ _:=O.ag hT;clear hT;refine uO 1 ?_;refine u1 0 (an rfl rfl) ?_;refine ng 0 0 (an rfl rfl) ?_ ?_
  ·intro h13;intro a I;simp only[decide_eq_decide,decide_eq_true_eq,decide_eq_false_iff_not,Bool.not_eq_true',Bool.not_eq_false',bne_iff_ne,ne_eq,beq_iff_eq,Bool.not_eq_true,Bool.not_eq_false]at h13;refine rO 8 I ?_;clear I a;refine u1 7 (aI rfl) ?_;refine uN H8 O ?_;clear O;intro b6 w O;refine uO 4 ?_;refine uN Dc O ?_;clear O;intro b7 w O;refine uO 5 ?_;intro a I;refine o1 0 I (qn (I.ml rfl)) ?_;clear I a;refine uF rfl (jk _ _ _ A (bs.take (bs.length-8)).length (bs.take (bs.length-8)) (fun _ at' err ok M=>GI (bs.take (bs.length-8)) b7 b6 [a6 b2 (.cells #[.int .i64 0,.int .i64 0,.slice none 0 0] 50)] at' err ok M) 104 [.pointer (some ⟨b7,0,none⟩),.pointer (some ⟨b6,0,none⟩)] O (by omega) I2 (fun w r q p O=>yL _ _ _ r q p b7 b6 A (bs.take (bs.length-8)).length (bs.take (bs.length-8)) O (by omega) (xC hR))) ?_
   rintro e w ⟨r9,q9,p9,at',err,ok,M,rfl,O,(⟨rfl,rfl,s,n,hs,Ah,ch_,ae,rfl,ha,hbe,hs16,hn62,hgn,hh2,rfl⟩ | ⟨rfl,hne,hno,N,rfl⟩)⟩
   ·replace O:=O.drop.drop.drop;refine uO 3 ?_;intro a I;replace I:=I.kp [2,3,7,8] rfl;refine rC 4 I ?_;clear I a;refine aK 0 0 (aG rfl rfl) ?_ ?_
    ·intro h21;refine uO 10 ?_;intro a I;refine o1 0 I (aM I rfl BC) ?_;clear I a;refine uW (vs:=[_,_,_]) (cs':=[_,_,_]) rfl rfl pN (O.p 4) ?_;clear O;intro w O;refine uO 5 ?_;intro a I;refine eu I rfl (de (cs:=[_,_,_]) I rfl CL pN (by exact O.aF (xs:=[_,_,_]) rfl)) (dm I rfl) ?_;rw[lU rfl]at h21;have hSp:=fun d hd e=>jd (d:=d) (f:=bz) (by decide) (fun d hd=>dZ hd) (show (bs.take (bs.length-8)).length≤16777216 by omega) (by omega) (by omega) (by omega) hgn (Nat.le_refl _) hbe hd e
     exact .inr ⟨jc rfl (BQ hSp rfl (fun hd=>by have:=drop_nil ha hd;simp at h21;omega)),rfl,O.nil⟩
    ·intro h21;intro a I
     try (exfalso;rw[lh rfl,if_pos hne]at h21;exact h21 hne)
     refine rO 1 I ?_;clear I a;refine u1 0 (lS (cs:=[_,_,_]) rfl) ?_;refine jR rfl (pj _ (⟨(s:Int),(n:Int),Ah,ch_,hs⟩:DL) ⟨(O.p 1).rd,im (O.p 2)⟩ ⟨by show hs.length≤_;omega,fun y hy=>(hgn y hy).2.2.2⟩) ?_;rintro e w ⟨rfl,hT⟩;replace O:Sat _ _ _:=O.ag hT;clear hT;cases h24:kb (DL.d (⟨(s:Int),(n:Int),Ah,ch_,hs⟩:DL))
     ·refine u1 6 (aI rfl) ?_;intro a I;refine o1 0 I (aM I rfl BC) ?_;clear I a;refine uW (vs:=[_,_,_]) (cs':=[_,_,_]) rfl rfl pN (O.p 4) ?_;clear O;intro w O;refine uO 5 ?_;intro a I;refine eu I rfl (de (cs:=[_,_,_]) I rfl CL pN (by exact O.aF (xs:=[_,_,_]) rfl)) (dm I rfl) ?_;have hSp:=fun d hd e=>jd (d:=d) (f:=bz) (by decide) (fun d hd=>dZ hd) (show (bs.take (bs.length-8)).length≤16777216 by omega) (by omega) (by omega) (by omega) hgn (Nat.le_refl _) hbe hd e
      exact .inr ⟨jc rfl (fun d hd e=>by have oW:=fE hd;rw[Bu hSp rfl hd e]at oW;exact absurd oW (by rw[show (⟨(s:Int),(n:Int),hs.map NL.d⟩:dB)=DL.d (⟨(s:Int),(n:Int),Ah,ch_,hs⟩:DL) from rfl,h24];decide)),rfl,O.nil⟩
     ·refine u1 8 (aI rfl) ?_;refine u1 0 (lS (cs:=[_,_,_]) rfl) ?_;refine uW (vs:=[_,_,_]) (cs':=[_,_,_]) rfl rfl pN (O.p 4) ?_;clear O;intro w O;refine uO 4 ?_;intro a I;refine eu I rfl (de (cs:=[_,_,_]) I rfl CL pN (by exact O.aF (xs:=[_,_,_]) rfl)) (dm I rfl) ?_;rw[lU rfl]at h21;have hn9:(bs.take (bs.length-8)).drop ae=[]:=List.drop_of_length_le (by simp at h21;omega);rw[hn9,List.append_nil]at hbe
      have hbd:(bs.take (bs.length-8))=dn 2 (DL.d (⟨(s:Int),(n:Int),Ah,ch_,hs⟩:DL)):=by
       rw[hbe];unfold dn;show _=dv ((s:Int)).toNat ((n:Int)).toNat (hs.map NL.d).length++bg 2 (hs.map NL.d);rw[List.length_map,Int.toNat_natCast,Int.toNat_natCast]
      refine .inl ⟨(⟨(s:Int),(n:Int),Ah,ch_,hs⟩:DL),rD h24 (fun y hy=>?_),?_,⟨by show hs.length≤_;omega,fun y hy=>(hgn y hy).2.2.2⟩,rfl,?_⟩
      ·have hy:y∈hs.map NL.d:=hy;obtain⟨z,hz,rfl⟩:=List.mem_map.1 hy;exact (hgn z hz).2.2.1
      ·have h9:=hq.2;rw[hbd]at h9;exact h9
      ·exact bY (DL.D4 ((O.p 3).p 3))
   ·replace O:=oC O.drop.drop.drop;refine uO 3 ?_;intro a I;replace I:=I.kp [2,3,7,8] rfl;refine rC 4 I ?_;clear I a;refine aK 0 0 (aG rfl rfl) ?_ ?_
    ·intro h21;refine uO 10 ?_;intro a I;refine o1 0 I (aM I rfl BC) ?_;clear I a;refine uW (vs:=[_,_,_]) (cs':=[_,_,_]) rfl rfl pN O ?_;clear O;intro w O;refine uO 5 ?_;intro a I;refine eu I rfl (de (cs:=[_,_,_]) I rfl CL pN (by exact O.aF (xs:=[_,_,_]) rfl)) (dm I rfl) ?_;exact .inr ⟨jc rfl hno,rfl,O.nil⟩
    ·intro h21;intro a I
     try (exfalso;rw[lh rfl,if_pos hne]at h21;exact h21 hne)
  ·intro h13;intro a I;contradiction
 ·replace O:Sat _ _ _:=O.ag hT;clear hT;refine uO 1 ?_;refine u1 0 (an rfl rfl) ?_;refine ng 0 0 (an rfl rfl) ?_ ?_
  ·intro h13;intro a I;contradiction
  ·intro h13;intro a I;simp only[decide_eq_decide,decide_eq_true_eq,decide_eq_false_iff_not,Bool.not_eq_true',Bool.not_eq_false',bne_iff_ne,ne_eq,beq_iff_eq,Bool.not_eq_true,Bool.not_eq_false]at h13;refine rO 8 I ?_;clear I a;refine u1 5 (aI rfl) ?_;intro a I;refine o1 0 I (aM I rfl BC) ?_;clear I a;refine uW (vs:=[_,_,_]) (cs':=[_,_,_]) rfl rfl pN O ?_;clear O;intro w O;refine uO 5 ?_;intro a I;refine eu I rfl (de (cs:=[_,_,_]) I rfl CL pN (by exact O.aF (xs:=[_,_,_]) rfl)) (dm I rfl) ?_;exact .inr ⟨iR hq,rfl,O.nil⟩
structure KL where
 ba:Int
 f:SL
 s:SL
def KL.n1 (h:KL):NL:=⟨h.ba,h.f⟩
def KL.n2 (h:KL):NL:=⟨h.ba,h.s⟩
def iQ (h:KL):List Value:=[.int .i64 h.ba,.slice h.f.e.a h.f.e.es.length h.f.e.c,.slice h.f.p.va h.f.p.d.vec.length h.f.p.vc,.slice h.f.p.ca h.f.p.d.ab.length h.f.p.cc,.slice h.f.r.a h.f.r.rs.length h.f.r.c,.slice h.s.e.a h.s.e.es.length h.s.e.c,.slice h.s.p.va h.s.p.d.vec.length h.s.p.vc,.slice h.s.p.ca h.s.p.d.ab.length h.s.p.cc,.slice h.s.r.a h.s.r.rs.length h.s.r.c]
theorem EY (h:KL):(iQ h).length=9:=rfl
theorem fo {xs:List KL}{i:Nat}{x:KL}(h:xs[i]?=some x):∀j u,(iQ x)[j]?=some u→(xs.flatMap iQ)[i * 9+j]?=some u:=jn EY h
theorem Hq (x:KL)(j:Nat)(u:Value)(e:(nL x.f)[j]?=some u):(iQ x)[1+j]?=some u:=by
 show (Value.int .i64 x.ba::(nL x.f++nL x.s))[1+j]?=some u;rw[Nat.add_comm,List.getElem?_cons_succ,List.getElem?_append_left (List.getElem?_eq_some_iff.1 e).1];exact e
theorem HA (x:KL)(j:Nat)(u:Value)(e:(nL x.s)[j]?=some u):(iQ x)[5+j]?=some u:=by
 show (Value.int .i64 x.ba::(nL x.f++nL x.s))[5+j]?=some u;rw[show 5+j=4+j+1 from by omega,List.getElem?_cons_succ,List.getElem?_append_right (by show 4≤4+j;omega)];show (nL x.s)[4+j-4]?=some u;rw[Nat.add_sub_cancel_left];exact e
structure aT where
 self:Int
 next:Int
 a:Option Addr
 c:Nat
 hs:List KL
def aT.d1 (x:aT):dB:=⟨x.self,x.next,(x.hs.map KL.n1).map NL.d⟩
def aT.d2 (x:aT):dB:=⟨x.self,x.next,(x.hs.map KL.n2).map NL.d⟩
structure aT.ok (w:World)(x:aT):Prop where
 top:Rd w 9 (.slice x.a x.hs.length x.c) x.hs.length (x.hs.flatMap iQ)
 GZ:∀h∈x.hs,h.f.ok w
 Gp:∀h∈x.hs,h.s.ok w
theorem aT.ok.sat {W w:World}{L:List As}{x:aT}(h:x.ok W)(t:Sat W w L):x.ok w:=⟨h.top.sat t,fun y hy=>(h.GZ y hy).sat t,fun y hy=>(h.Gp y hy).sat t⟩
structure aT.small (x:aT):Prop where
 len:x.hs.length≤1000000000
 Ho:∀h∈x.hs,j0 h.f
 HE:∀h∈x.hs,j0 h.s
instance:DecidableEq nJ:=fun a b=>decidable_of_iff (a.ba=b.ba∧a.st=b.st) (by cases a;cases b;simp)
instance:DecidableEq dB:=fun a b=>decidable_of_iff (a.self=b.self∧a.next=b.next∧a.hs=b.hs) (by cases a;cases b;simp)
def HN:SL:=⟨⟨none,0,[]⟩,⟨none,0,none,0,⟨[],[]⟩⟩,⟨none,0,[]⟩⟩
theorem ye (w:World):HN.ok w:=⟨⟨none,0,rfl,Nat.le_refl _,rfl,.inl rfl⟩,⟨⟨none,0,rfl,Nat.le_refl _,rfl,.inl rfl⟩,⟨none,0,rfl,Nat.le_refl _,rfl,.inl rfl⟩⟩,⟨⟨none,0,rfl,Nat.le_refl _,rfl,.inl rfl⟩,fun x hx=>by cases hx⟩⟩
theorem wg:j0 HN:=⟨by show 0≤_;omega,by show 0≤_;omega,by show 0≤_;omega,fun r hr=>(by cases hr),(by show 0≤_;omega)⟩
theorem hJ {hs:List KL}{i:Nat}{x:KL}(h:hs[i]?=some x):((hs.map KL.n1).map NL.d)[i]?=some x.n1.d:=by rw[List.getElem?_map,List.getElem?_map,h];rfl
theorem ib {hs:List KL}{i:Nat}{x:KL}(h:hs[i]?=some x):((hs.map KL.n2).map NL.d)[i]?=some x.n2.d:=by rw[List.getElem?_map,List.getElem?_map,h];rfl
theorem BP {m m':Nat}(h:m=m' % 256):Value.int .u8 (m:Int)=ai (UInt8.ofNat m'):=by
 unfold ai;rw[UInt8.toNat_ofNat',h]
def iO (p:Option nJ):Int:=match p with | some q=>q.ba | none=>-1
theorem wE {M:List nJ}{i:Nat}{x:nJ}(hx:M[i]?=some x)(h1:¬x.ba≤iO (ahead none M i))(h2:¬64≤x.ba)(hp:∀j z,j<i→M[j]?=some z→cK (ahead none M j) z=true):cK (ahead none M i) x=true:=by
 unfold cK;cases e:ahead none M i with
 | none =>
   rw[e]at h1;have:(-1:Int)<x.ba:=by unfold iO at h1;simp only at h1;omega
   simp;omega
 | some q =>
   rw[e]at h1;unfold iO at h1;simp only at h1
   have hq:0≤q.ba:=by
    have hi:¬i=0:=fun h=>by subst h;simp[ahead]at e
    unfold ahead at e;rw[if_neg hi]at e;have:=hp (i-1) q (by omega) e;unfold cK at this;simp only[Bool.and_eq_true,decide_eq_true_eq]at this;exact this.1.1
   simp;omega
theorem oV {M:List nJ}{i:Nat}{x:nJ}(h:x.ba≤iO (ahead none M i)∨64≤x.ba):cK (ahead none M i) x=false:=by
 rw[Bool.eq_false_iff];intro e;unfold cK at e;simp only[Bool.and_eq_true,decide_eq_true_eq]at e;rcases h with h | h
 ·
  cases q:ahead none M i with
  | none=>rw[q]at h;unfold iO at h;simp only at h;omega
  | some y =>
    rw[q]at h e;unfold iO at h;simp only at h;have:=e.2;simp only[decide_eq_true_eq]at this;omega
 ·
  omega
theorem qI {f:iW→Bool}{d:dB}{i:Nat}{x:nJ}(hx:d.hs[i]?=some x)(h:cK (ahead none d.hs i) x=false):iV f d=false:=eB (kQ hx h)
theorem qT {M:List nJ}{i:Nat}(hi:i≤M.length)(hp:∀j z,j<i→M[j]?=some z→cK (ahead none M j) z=true):-1≤iO (ahead none M i)∧iO (ahead none M i)<64:=by
 unfold iO;cases e:ahead none M i with
 | none=>simp
 | some q =>
   have h0:¬i=0:=fun h=>by subst h;simp[ahead]at e
   unfold ahead at e;rw[if_neg h0]at e;have:=hp (i-1) q (by omega) e;unfold cK at this;simp only[Bool.and_eq_true,decide_eq_true_eq]at this;simp only;omega
theorem jg {M:List nJ}{i:Nat}(hi:i≤M.length)(hp:∀j z,j<i→M[j]?=some z→cK (ahead none M j) z=true):i≤64:=by
 have h:kz cK none (M.take i)=true:=cX fun j z hz=>by
  have hj:j<i:=by have:=(List.getElem?_eq_some_iff.1 hz).1;rw[List.length_take]at this;omega
  rw[List.getElem?_take,if_pos hj]at hz;have h1:=hp j z hj hz
  have h2:ahead none (M.take i) j=ahead none M j:=by
   unfold ahead
   split
   ·
    rfl
   ·
    rw[List.getElem?_take,if_pos (by omega)]
  rw[h2];exact h1
 have:=kD h;rw[List.length_take]at this;omega
theorem Bf (k:Nat)(d:dB):4≤(dn k d).length:=by
 rw[oR];have a:=cm 3;have b:=cm d.self.toNat;have c:=cm d.next.toNat;have e:=cm d.hs.length;simp only[List.length_append];omega
theorem iH (W w:World)(L:List As)(A:Option Addr)(c:Nat)(bs:List UInt8)(v:Nat)(O:Sat W w (row 5 1 (.slice A (bs).length c) (bs).length ((bs).map ai)::L))(hv:v≤9223372036854775807)(hl:bs.length≤100000000000000):Calls Tryz.prog 40 #[.slice A (bs).length c,.int .i64 ((v:Nat):Int)] w fun e w'=>∃A' c',e=.returned (.slice A' (bs++aE v).length c')∧Sat W w' (row 5 1 (.slice A' (bs++aE v).length c') (bs++aE v).length ((bs++aE v).map ai)::L):=by
 refine bP Tryz.func40 [0,1] ?_;have h9:=bd (n:=v) (by omega);refine uC 8 ?_;refine uF rfl (qY _ v (by omega)) ?_;rintro e w ⟨A8,c8,rfl,hT⟩;replace O:=O.au hT;clear hT;refine uO 10 ?_;intro a I;refine wp_loop_ghost (fun (mm:Nat) a w=>∃(i:Nat) (out:List UInt8) (Ao:Option Addr) (co:Nat),Ag a 23 [(0,.slice Ao (out).length co),(5,.slice A8 ((aE v)).length c8),(6,.int .i64 ((i:Nat):Int))]∧Sat W w (row 5 1 (.slice Ao (out).length co) (out).length ((out).map ai)::row 5 1 (.slice A8 ((aE v)).length c8) ((aE v)).length (((aE v)).map ai)::L)∧(i≤(aE v).length)∧(out=bs++(aE v).take i)∧(out.length=bs.length+i)∧mm=(aE v).length-i) (aE v).length ?_ ?_
 ·replace I:=I.kp [0,5,6] rfl;exact⟨0,_,_,_,I,(O.p 1),(by omega),(by simp),(by omega),by omega⟩
 intro m a w hI;clear O I;obtain⟨i,out,Ao,co,I,O,hi,ho,hol,rfl⟩:=hI;refine rC 5 I ?_;clear I a;refine u1 0 (ak rfl aW) ?_;refine aK 0 0 (aq rfl rfl) ?_ ?_
 ·intro h12;refine uO 11 ?_;obtain⟨A8_p,rfl⟩:∃q,A8=some q:=(O.p 1).rd.ao (by omega);obtain⟨x,hx⟩:∃zz_,(aE v)[i]?=some zz_:=⟨_,List.getElem?_eq_getElem (by omega)⟩;refine u1 0 (ix rfl rfl aW mJ) ?_;refine u1 0 (aj rfl o0 (eO (O.p 1).rd (aV hx))) ?_;intro a I;refine nF I rfl rfl aW j5 rfl rfl rfl (by simp[Value.oneCell',ai]) O ?_;clear I a O;intro A20 w O;intro a I;refine dj I rfl rfl rfl aW j5 rfl (O.p 1) (O.rd.src aW (by simp[Value.oneCell',ai])) (by omega) (by omega) ?_;clear I a O;intro A21 c21 w hc21 O;refine uO 6 ?_;refine u1 2 (ad rfl rfl) ?_;intro a I;replace I:=I.kp [0,5,6] rfl;have e1:(out).map ai++[ai x]=(out++[x]).map ai:=by simp
  have e2:(out).length+1=(out++[x]).length:=by simp
  rw[e1,e2]at O;rw[e2]at I;clear e1 e2;refine⟨(aE v).length-(i+1),by omega,i+1,out++[x],_,_,I,(O.p 1).drop,by omega,?_,by simp only[List.length_append,List.length_cons,List.length_nil];omega,rfl⟩;rw[ho,ay hx,List.append_assoc]
 ·intro h12;refine uO 15 ?_;refine aS ?_;have hie:i=(aE v).length:=by omega
  rw[hie,List.take_length]at ho;subst ho;exact⟨_,_,rfl,(O.p 1).drop⟩
theorem jo (W w:World)(L:List As)(A:Option Addr)(c:Nat)(bs:List UInt8)(n:Nat)(O:Sat W w (row 5 1 (.slice A (bs).length c) (bs).length ((bs).map ai)::L))(hn:n<4294967296)(hl:bs.length≤100000000000000):Calls Tryz.prog 43 #[.slice A (bs).length c,.int .i64 ((n:Nat):Int)] w fun e w'=>∃A' c',e=.returned (.slice A' (bs++cn n).length c')∧Sat W w' (row 5 1 (.slice A' (bs++cn n).length c') (bs++cn n).length ((bs++cn n).map ai)::L):=by
 refine bP Tryz.func43 [0,1] ?_
 refine uC 9 ?_;refine u1 0 (aH (gw rfl rfl (by omega) (by omega) (by omega)) (show _=Value.int .i64 ((n / 16777216:Nat):Int) from congrArg (Value.int .i64) (by omega))) ?_;refine u1 1 (aH (jm rfl p3 oZ (by omega) (by omega)) (show Value.int .u8 ((n / 16777216:Nat):Int)=ai (UInt8.ofNat (n / 16777216)) from BP (by omega))) ?_;refine u1 0 (aH (gw rfl rfl (by omega) (by omega) (by omega)) (show _=Value.int .i64 ((n / 65536:Nat):Int) from congrArg (Value.int .i64) (by omega))) ?_;refine u1 0 (aH (gZ rfl rfl (by omega) (by omega)) (show _=Value.int .i64 ((n / 65536 % 256:Nat):Int) from congrArg (Value.int .i64) (by omega))) ?_;refine u1 1 (aH (jm rfl p3 oZ (by omega) (by omega)) (show Value.int .u8 ((n / 65536 % 256:Nat):Int)=ai (UInt8.ofNat (n / 65536)) from BP (by omega))) ?_;refine u1 0 (aH (gw rfl rfl (by omega) (by omega) (by omega)) (show _=Value.int .i64 ((n / 256:Nat):Int) from congrArg (Value.int .i64) (by omega))) ?_;refine u1 0 (aH (gZ rfl rfl (by omega) (by omega)) (show _=Value.int .i64 ((n / 256 % 256:Nat):Int) from congrArg (Value.int .i64) (by omega))) ?_;refine u1 1 (aH (jm rfl p3 oZ (by omega) (by omega)) (show Value.int .u8 ((n / 256 % 256:Nat):Int)=ai (UInt8.ofNat (n / 256)) from BP (by omega))) ?_;refine u1 0 (aH (gZ rfl rfl (by omega) (by omega)) (show _=Value.int .i64 ((n % 256:Nat):Int) from congrArg (Value.int .i64) (by omega))) ?_;refine u1 0 (aH (jm rfl p3 oZ (by omega) (by omega)) (show Value.int .u8 ((n % 256:Nat):Int)=ai (UInt8.ofNat (n)) from BP (by omega))) ?_
 intro a I;refine nF I rfl rfl aW j5 rfl rfl rfl (by simp[Value.oneCell',ai]) O ?_;clear I a O;intro A20 w O;intro a I;refine dj I rfl rfl rfl aW j5 rfl (O.p 1) (O.rd.src aW (by simp[Value.oneCell',ai])) (by omega) (by omega) ?_;clear I a O;intro A21 c21 w hc21 O;have e1:bs.map ai++[ai (UInt8.ofNat (n / 16777216)),ai (UInt8.ofNat (n / 65536)),ai (UInt8.ofNat (n / 256)),ai (UInt8.ofNat n)]=(bs++cn n).map ai:=by simp[cn]
 have e2:bs.length+4=(bs++cn n).length:=by simp[cn]
 intro a I;rw[e1,e2]at O;rw[e2]at I;refine rO 4 I ?_;clear I a;refine aS ?_;exact⟨_,_,rfl,(O.p 1).drop⟩
theorem tq (W:World)(h:KL)(hp:h.f.ok W)(hs:j0 h.f):Calls Tryz.prog 41 #[.int .i64 1,.agg #[.int .i64 h.ba,.slice h.f.e.a h.f.e.es.length h.f.e.c,.slice h.f.p.va h.f.p.d.vec.length h.f.p.vc,.slice h.f.p.ca h.f.p.d.ab.length h.f.p.cc,.slice h.f.r.a h.f.r.rs.length h.f.r.c,.slice h.s.e.a h.s.e.es.length h.s.e.c,.slice h.s.p.va h.s.p.d.vec.length h.s.p.vc,.slice h.s.p.ca h.s.p.d.ab.length h.s.p.cc,.slice h.s.r.a h.s.r.rs.length h.s.r.c]] W fun e w'=>∃A' c',e=.returned (.tuple #[.slice A' (dR aB 1 h.f.d).length c',.int .i64 (pg aB h.f.d)])∧Sat W w' [row 5 1 (.slice A' (dR aB 1 h.f.d).length c') (dR aB 1 h.f.d).length ((dR aB 1 h.f.d).map ai)]:=by
 refine bP Tryz.func41 [0,1] ?_;have O:=Sat.start W;refine uC 2 ?_;refine uB rfl O ?_;clear O;intro b3 w O;refine uO 8 ?_;refine u1 5 (et (aY rfl rfl) (by omega)) ?_;refine u1 0 (aa rfl xX) ?_;refine u1 0 (lS (cs:=[_,_,_,_]) rfl) ?_;refine uF rfl (re _ h.f (hp.sat O) hs) ?_;rintro e w ⟨A10,c10,rfl,hT⟩;replace O:=O.au hT;clear hT;refine u1 0 (an rfl rfl) ?_;refine u1 6 (an rfl rfl) ?_;refine ft ?_;exact⟨_,_,rfl,bY O⟩
theorem tA (W:World)(h:KL)(hp:h.s.ok W)(hs:j0 h.s):Calls Tryz.prog 41 #[.int .i64 2,.agg #[.int .i64 h.ba,.slice h.f.e.a h.f.e.es.length h.f.e.c,.slice h.f.p.va h.f.p.d.vec.length h.f.p.vc,.slice h.f.p.ca h.f.p.d.ab.length h.f.p.cc,.slice h.f.r.a h.f.r.rs.length h.f.r.c,.slice h.s.e.a h.s.e.es.length h.s.e.c,.slice h.s.p.va h.s.p.d.vec.length h.s.p.vc,.slice h.s.p.ca h.s.p.d.ab.length h.s.p.cc,.slice h.s.r.a h.s.r.rs.length h.s.r.c]] W fun e w'=>∃A' c',e=.returned (.tuple #[.slice A' (dR bz 2 h.s.d).length c',.int .i64 (pg bz h.s.d)])∧Sat W w' [row 5 1 (.slice A' (dR bz 2 h.s.d).length c') (dR bz 2 h.s.d).length ((dR bz 2 h.s.d).map ai)]:=by
 refine bP Tryz.func41 [0,1] ?_;have O:=Sat.start W;refine uC 2 ?_;refine uB rfl O ?_;clear O;intro b3 w O;refine uO 8 ?_;refine u1 7 (dY (aY rfl rfl) (by omega)) ?_;refine u1 0 (aa rfl yl) ?_;refine u1 0 (lS (cs:=[_,_,_,_]) rfl) ?_;refine uF rfl (rp _ h.s (hp.sat O) hs) ?_;rintro e w ⟨A10,c10,rfl,hT⟩;replace O:=O.au hT;clear hT;refine u1 0 (an rfl rfl) ?_;refine u1 5 (an rfl rfl) ?_;refine ft ?_;exact⟨_,_,rfl,bY O⟩
theorem fP (W w:World)(L:List As)(A:Option Addr)(c:Nat)(bs:List UInt8)(v:Int)(O:Sat W w (row 5 1 (.slice A (bs).length c) (bs).length ((bs).map ai)::L))(h0:0≤v)(hv:v≤9223372036854775807)(hl:bs.length≤100000000000000):Calls Tryz.prog 40 #[.slice A (bs).length c,.int .i64 v] w fun e w'=>∃A' c',e=.returned (.slice A' (bs++aE v.toNat).length c')∧Sat W w' (row 5 1 (.slice A' (bs++aE v.toNat).length c') (bs++aE v.toNat).length ((bs++aE v.toNat).map ai)::L):=by
 obtain⟨n,rfl⟩:=Int.eq_ofNat_of_zero_le h0;exact iH W w L A c bs n O (by omega) hl
theorem vF (W:World)(d:aT)(hp:d.ok W)(hs0:d.small):Calls Tryz.prog 11 #[.int .i64 1,.agg #[.int .i64 d.self,.int .i64 d.next,.slice d.a d.hs.length d.c]] W fun e w'=>(iV aB d.d1=true∧∃A' c',e=.returned (.tuple #[.slice A' (bh 1 d.d1).length c',.int .i64 0])∧Sat W w' [row 5 1 (.slice A' (bh 1 d.d1).length c') (bh 1 d.d1).length ((bh 1 d.d1).map ai)])∨(iV aB d.d1=false∧e=.returned (.tuple #[.slice none 0 0,.int .i64 1])∧Sat W w' []):=by
 refine bP Tryz.func11 [0,1] ?_;have O:=Sat.start W;obtain⟨self,next,ka,kc,hs⟩:=d;have hR:Rd W 9 (.slice ka hs.length kc) hs.length (hs.flatMap iQ):=hp.top;have hF:∀h∈hs,h.f.ok W:=hp.GZ;have hSo:∀h∈hs,h.s.ok W:=hp.Gp;have hl:hs.length≤1000000000:=hs0.len;have hFm:∀h∈hs,j0 h.f:=hs0.Ho;have hSm:∀h∈hs,j0 h.s:=hs0.HE;intro a I;dsimp only at I ⊢;refine rC 2 I ?_;clear I a;refine uB rfl O ?_;clear O;intro b3 w O;refine uO 7 ?_;refine u1 0 (aa rfl jT) ?_;refine u1 0 (ld rfl) ?_;refine aK 0 0 (aq rfl rfl) ?_ ?_
 ·intro h16;refine uO 26 ?_;refine ft ?_;exact .inr ⟨eB (ff (d:=(aT.d1 ⟨self,next,ka,kc,hs⟩)) (by show self<0∨16≤self∨next<0∨4611686018427387904<next;omega)),rfl,O.nil⟩
 ·intro h16;refine uO 1 ?_;refine u1 0 (aa rfl jT) ?_;refine u1 0 (ld rfl) ?_;refine aK 0 0 (dH rfl rfl) ?_ ?_
  ·intro h20;refine uO 22 ?_;refine ft ?_;exact .inr ⟨eB (ff (d:=(aT.d1 ⟨self,next,ka,kc,hs⟩)) (by show self<0∨16≤self∨next<0∨4611686018427387904<next;omega)),rfl,O.nil⟩
  ·intro h20;refine uO 2 ?_;refine u1 0 (aa rfl jP) ?_;refine u1 0 (ld rfl) ?_;refine aK 0 0 (aq rfl rfl) ?_ ?_
   ·intro h25;refine uO 17 ?_;refine ft ?_;exact .inr ⟨eB (ff (d:=(aT.d1 ⟨self,next,ka,kc,hs⟩)) (by show self<0∨16≤self∨next<0∨4611686018427387904<next;omega)),rfl,O.nil⟩
   ·intro h25;refine uO 2 ?_;refine u1 0 (aa rfl jP) ?_;refine u1 0 (ld rfl) ?_;refine aK 0 0 (dx rfl rfl) ?_ ?_
    ·intro h30;refine uO 12 ?_;refine ft ?_;exact .inr ⟨eB (ff (d:=(aT.d1 ⟨self,next,ka,kc,hs⟩)) (by show self<0∨16≤self∨next<0∨4611686018427387904<next;omega)),rfl,O.nil⟩
    ·intro h30;refine uO 8 ?_;intro a I;refine nF I rfl rfl aW j5 rfl rfl rfl (by simp[Value.oneCell']) O ?_;clear I a O;intro A32 w O;refine uO 5 ?_;intro a I;change Sat W w (row 5 1 (.slice A32 ([3]).length 1) ([3]).length (([3]).map ai)::_) at O;have hfs0:0≤self:=by omega
     have hfn0:0≤next:=by omega
     obtain⟨sf,hsf⟩:=Int.eq_ofNat_of_zero_le hfs0;obtain⟨nx,hnx⟩:=Int.eq_ofNat_of_zero_le hfn0;have hst:self.toNat=sf:=by omega
     have hnt:next.toNat=nx:=by omega
     refine rO 1 I ?_;clear I a;refine u1 0 (aa rfl jT) ?_;refine u1 0 (ld rfl) ?_;refine uF rfl (fP _ _ _ A32 1 [3] self O (by omega) (by omega) (by simp)) ?_;clear O;rintro e w ⟨An36,cn36,rfl,O⟩;have hn36:=nine (n:=self.toNat) (by omega);refine uO 3 ?_;intro a I;replace I:=I.kp [0,3,4,5,6] rfl;refine rC 3 I ?_;clear I a;refine u1 0 (aa rfl jP) ?_;refine u1 0 (ld rfl) ?_;refine uF rfl (fP _ _ _ _ _ _ next O (by omega) (by omega) (by simp only[List.length_append,List.length_cons,List.length_nil];omega)) ?_;clear O;rintro e w ⟨An40,cn40,rfl,O⟩;have hn40:=nine (n:=next.toNat) (by omega);refine uO 6 ?_;refine u1 0 (aa rfl cJ) ?_;refine u1 0 (ld rfl) ?_;refine u1 0 (ak rfl fF) ?_
     refine uF rfl (iH _ _ _ _ _ _ (hs.length) O (by omega) (by (simp only[List.length_append,List.length_cons,List.length_nil];omega))) ?_;clear O;rintro e w ⟨An45,cn45,rfl,O⟩;have hn45:=nine (n:=hs.length) (by omega);refine uO 15 ?_;intro a I
     refine wp_loop_ghost (fun (mm:Nat) a w=>∃(i:Nat) (out:List UInt8) (Ao:Option Addr) (co:Nat),Ag a 121 [(0,.int .i64 1),(3,.pointer (some ⟨b3,0,none⟩)),(6,.slice Ao (out).length co),(7,.int .i64 ((iO (ahead none ((hs.map KL.n1).map NL.d) i)))),(8,.int .i64 ((i:Nat):Int))]∧Sat W w ([row 5 1 (.slice Ao (out).length co) (out).length ((out).map ai),a6 b3 (.cells #[.int .i64 self,.int .i64 next,.slice ka hs.length kc] 24)])∧(i≤hs.length)∧(out=dv self.toNat next.toNat hs.length++bg 1 (((hs.map KL.n1).take i).map NL.d))∧(∀j z,j<i→hs[j]?=some z→aB z.f.d=true)∧(∀j z,j<i→((hs.map KL.n1).map NL.d)[j]?=some z→cK (ahead none ((hs.map KL.n1).map NL.d) j) z=true)∧(out.length≤40+i * 8000000000)∧mm=hs.length-i) hs.length ?_ ?_
     ·replace I:=I.kp [0,3,6,7,8] rfl;exact⟨0,_,_,_,I,(oW O),(by omega),(by rw[show ([3]:List UInt8)=aE 3 from by rw[fx (by decide)];rfl];simp[dv,bg]),(by intro j z hj;omega),(by intro j z hj;omega),(by simp only[List.length_append,List.length_cons,List.length_nil];omega),by omega⟩
     intro m a w hI;clear O I;obtain⟨i,out,Ao,co,I,O,hi,ho,hok,hct,hol,rfl⟩:=hI;refine rC 4 I ?_;clear I a;refine u1 0 (aa rfl cJ) ?_;refine u1 0 (ld rfl) ?_;refine u1 0 (ak rfl fF) ?_;refine aK 0 0 (aq rfl rfl) ?_ ?_
     ·intro h50;refine uO 10 ?_;refine u1 0 (aa rfl cJ) ?_;refine u1 1 (ld rfl) ?_;obtain⟨ka_p,rfl⟩:∃q,ka=some q:=(hR.sat O).ao (by omega);obtain⟨x,hx⟩:∃zz_,hs[i]?=some zz_:=⟨_,List.getElem?_eq_getElem (by omega)⟩;have hxm:=List.mem_of_getElem? hx;have hib:=(jg (M:=((hs.map KL.n1).map NL.d)) (i:=i) (by rw[List.length_map,List.length_map];omega) hct);refine u1 0 (ix rfl rfl fF lu) ?_;refine u1 0 (ax (cs:=iQ x) rfl Io lu (fun j u e=>bI (hR.sat O) (fo hx j u e))) ?_;refine uF rfl (tq _ x ((hF x hxm).sat O) (hFm x hxm)) ?_;rintro e w ⟨A60,c60,he,hT⟩;cases h60:aB x.f.d
      ·rw[fH h60,jE h60]at he;subst he;rw[fH h60]at hT;replace O:=O.au hT;clear hT;refine uO 1 ?_;refine u1 0 (an rfl rfl) ?_;refine u1 8 (an rfl rfl) ?_;refine u1 7 (et (aG rfl rfl) (by omega)) ?_;have hlc:=qT (M:=((hs.map KL.n1).map NL.d)) (i:=i) (by rw[List.length_map,List.length_map];omega) hct;refine uO 28 ?_;refine ft ?_;exact .inr ⟨sW (d:=(aT.d1 ⟨self,next,_,kc,hs⟩)) (List.mem_of_getElem? (hJ hx)) h60,rfl,O.nil⟩
      ·rw[eJ h60,ir h60]at he;subst he;rw[eJ h60]at hT;replace O:=O.au hT;clear hT;have hfx:aB x.f.d=true:=h60;have hsl:=xV (k:=1) (by decide) hfx (hFm x hxm);have hns:=nine (n:=(cq 1 x.f.d).length) (by omega);refine uO 1 ?_;refine u1 0 (an rfl rfl) ?_;refine u1 8 (an rfl rfl) ?_;refine u1 1 (dY (aG rfl rfl) (by omega)) ?_;refine u1 0 (aa rfl cJ) ?_;refine u1 1 (ld rfl) ?_;refine u1 0 (ix rfl rfl fF lu) ?_;refine u1 0 (aw rfl jZ) ?_;refine u1 0 (aj rfl dE (bI (hR.sat O) (fo hx 0 _ rfl))) ?_;have hlc:=qT (M:=((hs.map KL.n1).map NL.d)) (i:=i) (by rw[List.length_map,List.length_map];omega) hct;refine uO 1 ?_;refine aK 0 0 (dU rfl rfl) ?_ ?_
       ·intro h73;refine uO 26 ?_;refine ft ?_;exact .inr ⟨qI (d:=(aT.d1 ⟨self,next,_,kc,hs⟩)) (hJ hx) (oV (by show x.ba≤iO (ahead none ((hs.map KL.n1).map NL.d) i)∨64≤x.ba;omega)),rfl,O.nil⟩
       ·intro h73;refine uO 2 ?_;refine u1 0 (aa rfl cJ) ?_;refine u1 1 (ld rfl) ?_;refine u1 0 (ix rfl rfl fF lu) ?_;refine u1 0 (aw rfl jZ) ?_;refine u1 0 (aj rfl dE (bI (hR.sat O) (fo hx 0 _ rfl))) ?_;refine aK 0 0 (dH rfl rfl) ?_ ?_
        ·intro h82;refine uO 17 ?_;refine ft ?_;exact .inr ⟨qI (d:=(aT.d1 ⟨self,next,_,kc,hs⟩)) (hJ hx) (oV (by show x.ba≤iO (ahead none ((hs.map KL.n1).map NL.d) i)∨64≤x.ba;omega)),rfl,O.nil⟩
        ·intro h82;refine uO 8 ?_;have hcf:=wE (hJ hx) (by show ¬x.ba≤iO (ahead none ((hs.map KL.n1).map NL.d) i);omega) (by show ¬64≤x.ba;omega) hct;have hxc0:0≤x.ba:=by omega
         refine u1 0 (aa rfl cJ) ?_;refine u1 1 (ld rfl) ?_;refine u1 0 (ix rfl rfl fF lu) ?_;refine u1 0 (aw rfl jZ) ?_;refine u1 7 (aj rfl dE (bI (hR.sat O) (fo hx 0 _ rfl))) ?_;refine uF rfl (fP _ _ _ Ao co out x.ba (O.p 1) (by omega) (by omega) (by omega)) ?_;clear O;rintro e w ⟨An92,cn92,rfl,O⟩;have hn92:=nine (n:=x.ba.toNat) (by omega);refine uO 7 ?_;refine u1 0 (ak rfl aW) ?_;refine uF rfl (iH _ _ _ _ _ _ ((cq 1 x.f.d).length) O (by omega) (by (simp only[List.length_append,List.length_cons,List.length_nil];omega))) ?_;clear O;rintro e w ⟨An96,cn96,rfl,O⟩;have hn96:=nine (n:=(cq 1 x.f.d).length) (by omega);refine uO 9 ?_;intro a I
         refine wp_loop_ghost (fun (mm:Nat) a w=>∃(j:Nat) (ou:List UInt8) (Ai:Option Addr) (ci:Nat),Ag a 121 [(0,.int .i64 1),(3,.pointer (some ⟨b3,0,none⟩)),(6,.slice Ai (ou).length ci),(7,.int .i64 (x.ba)),(8,.int .i64 ((i:Nat):Int)),(9,.slice A60 ((cq 1 x.f.d)).length c60),(11,.int .i64 ((j:Nat):Int))]∧Sat W w ([row 5 1 (.slice Ai (ou).length ci) (ou).length ((ou).map ai),row 5 1 (.slice A60 ((cq 1 x.f.d)).length c60) ((cq 1 x.f.d)).length (((cq 1 x.f.d)).map ai),a6 b3 (.cells #[.int .i64 self,.int .i64 next,.slice (some ka_p) hs.length kc] 24)])∧(j≤(cq 1 x.f.d).length)∧(ou=(out++aE x.ba.toNat++aE (cq 1 x.f.d).length)++(cq 1 x.f.d).take j)∧(ou.length=(out++aE x.ba.toNat++aE (cq 1 x.f.d).length).length+j)∧mm=(cq 1 x.f.d).length-j) (cq 1 x.f.d).length ?_ ?_
         ·replace I:=I.kp [0,3,6,7,8,9,11] rfl;exact⟨0,_,_,_,I,(pw O),(by omega),(by simp),(by omega),by omega⟩
         intro m a w hI;clear O I;obtain⟨j,ou,Ai,ci,I,O,hj,hoi,hoil,rfl⟩:=hI;refine rC 5 I ?_;clear I a;refine u1 0 (ak rfl aW) ?_;refine aK 0 0 (aq rfl rfl) ?_ ?_
         ·intro h100;refine uO 11 ?_;obtain⟨A60_p,rfl⟩:∃q,A60=some q:=(O.p 1).rd.ao (by omega);obtain⟨y,hy⟩:∃zz_,(cq 1 x.f.d)[j]?=some zz_:=⟨_,List.getElem?_eq_getElem (by omega)⟩;refine u1 0 (ix rfl rfl aW mJ) ?_;refine u1 0 (aj rfl o0 (eO (O.p 1).rd (aV hy))) ?_;intro a I;refine nF I rfl rfl aW j5 rfl rfl rfl (by simp[Value.oneCell',ai]) O ?_;clear I a O;intro A108 w O;intro a I;refine dj I rfl rfl rfl aW j5 rfl (O.p 1) (O.rd.src aW (by simp[Value.oneCell',ai])) (by simp only[List.length_append]at *;omega) (by simp only[List.length_append]at *;omega) ?_;clear I a O;intro A109 c109 w hc109 O;refine uO 6 ?_;refine u1 2 (ad rfl rfl) ?_;intro a I;replace I:=I.kp [0,3,6,7,8,9,11] rfl;have e1:(ou).map ai++[ai y]=(ou++[y]).map ai:=by simp
          have e2:(ou).length+1=(ou++[y]).length:=by simp
          rw[e1,e2]at O;rw[e2]at I;clear e1 e2;refine⟨(cq 1 x.f.d).length-(j+1),by omega,j+1,ou++[y],_,_,I,pw (((O.p 3).p 3).p 2),by omega,?_,by simp only[List.length_append,List.length_cons,List.length_nil]at *;omega,rfl⟩;rw[hoi,ay hy];simp only[List.append_assoc]
         ·intro h100;refine uO 11 ?_;refine u1 2 (ad rfl rfl) ?_;intro a I;replace I:=I.kp [0,3,6,7,8] rfl;have hje:j=(cq 1 x.f.d).length:=by omega
          rw[hje,List.take_length]at hoi;have e6:x.ba=iO (ahead none ((hs.map KL.n1).map NL.d) (i+1)):=by rw[cG (hJ hx)];rfl
          refine⟨hs.length-(i+1),by omega,i+1,ou,Ai,ci,?_,oW ((O.p 2).p 1),by omega,?_,?_,?_,?_,rfl⟩
          ·rw[←e6];exact I
          ·rw[hoi,ho,nn (x:=x.n1) (by rw[List.getElem?_map,hx];rfl)];simp only[List.append_assoc];rfl
          ·exact fun j z hj hz=>(by rcases Nat.lt_or_ge j i with h | h;exact hok j z h hz;obtain rfl:j=i:=(by omega);rw[hx]at hz;cases hz;exact h60)
          ·exact fun j z hj hz=>(by rcases Nat.lt_or_ge j i with h | h;exact hct j z h hz;obtain rfl:j=i:=(by omega);rw[hJ hx]at hz;cases hz;exact hcf)
          ·rw[hoi];simp only[List.length_append];have:=Nat.succ_mul i 8000000000;omega
     ·intro h50;refine uO 8 ?_;intro a I;replace I:=I.kp [6] rfl;refine rC 3 I ?_;clear I a;refine uF rfl (sE _ Ao co out O.rd (by have hib:=(jg (M:=((hs.map KL.n1).map NL.d)) (i:=i) (by rw[List.length_map,List.length_map];omega) hct);omega)) ?_;rintro e w ⟨rfl,hT⟩;replace O:Sat _ _ _:=O.ag hT;clear hT;have hslt:=kl out;have hib:=(jg (M:=((hs.map KL.n1).map NL.d)) (i:=i) (by rw[List.length_map,List.length_map];omega) hct);refine uO 1 ?_;refine u1 0 (an rfl rfl) ?_;refine u1 8 (an rfl rfl) ?_;refine uF rfl (jo _ _ _ Ao co out (aU out).1 O (by omega) (by omega)) ?_;clear O;rintro e w ⟨A117,c117,rfl,O⟩;refine uO 7 ?_;refine uF rfl (jo _ _ _ _ _ _ (aU out).2 O (by omega) (by simp only[List.length_append,eI];omega)) ?_;clear O;rintro e w ⟨A120,c120,rfl,O⟩;refine uO 5 ?_;refine ft ?_
      have hie:i=hs.length:=by omega
      rw[hie,List.take_of_length_le (by rw[List.length_map];omega)]at ho;have hbd:out=dn 1 (aT.d1 ⟨self,next,ka,kc,hs⟩):=by rw[ho];unfold dn;show dv self.toNat next.toNat hs.length++bg 1 ((hs.map KL.n1).map NL.d)=dv self.toNat next.toNat ((hs.map KL.n1).map NL.d).length++bg 1 ((hs.map KL.n1).map NL.d);rw[List.length_map,List.length_map]
      have hsl:out++cn (aU out).1++cn (aU out).2=dg out:=by unfold dg;rw[List.append_assoc]
      rw[hsl]at O ⊢;subst hbd;refine .inl ⟨rD (te (d:=(aT.d1 ⟨self,next,ka,kc,hs⟩)) (by show 0≤self;omega) (by show self<16;omega) (by show 0≤next;omega) (by show next≤_;omega) (fun j z hz=>hct j z (by have:=(List.getElem?_eq_some_iff.1 hz).1;simp only[aT.d1,List.length_map]at this;omega) hz)) fun y hy=>?_,_,_,rfl,bY O⟩;have hy:y∈((hs.map KL.n1).map NL.d):=hy;obtain⟨z,hz,rfl⟩:=List.mem_map.1 hy;obtain⟨z2,hz2,rfl⟩:=List.mem_map.1 hz;obtain⟨j,hj⟩:=List.mem_iff_getElem?.1 hz2;exact hok j z2 (by have:=(List.getElem?_eq_some_iff.1 hj).1;omega) hj
theorem vN (W:World)(d:aT)(hp:d.ok W)(hs0:d.small):Calls Tryz.prog 11 #[.int .i64 2,.agg #[.int .i64 d.self,.int .i64 d.next,.slice d.a d.hs.length d.c]] W fun e w'=>(iV bz d.d2=true∧∃A' c',e=.returned (.tuple #[.slice A' (bh 2 d.d2).length c',.int .i64 0])∧Sat W w' [row 5 1 (.slice A' (bh 2 d.d2).length c') (bh 2 d.d2).length ((bh 2 d.d2).map ai)])∨(iV bz d.d2=false∧e=.returned (.tuple #[.slice none 0 0,.int .i64 1])∧Sat W w' []):=by
 refine bP Tryz.func11 [0,1] ?_;have O:=Sat.start W;obtain⟨self,next,ka,kc,hs⟩:=d;have hR:Rd W 9 (.slice ka hs.length kc) hs.length (hs.flatMap iQ):=hp.top;have hF:∀h∈hs,h.f.ok W:=hp.GZ;have hSo:∀h∈hs,h.s.ok W:=hp.Gp;have hl:hs.length≤1000000000:=hs0.len;have hFm:∀h∈hs,j0 h.f:=hs0.Ho;have hSm:∀h∈hs,j0 h.s:=hs0.HE;intro a I;dsimp only at I ⊢;refine rC 2 I ?_;clear I a;refine uB rfl O ?_;clear O;intro b3 w O;refine uO 7 ?_;refine u1 0 (aa rfl jT) ?_;refine u1 0 (ld rfl) ?_;refine aK 0 0 (aq rfl rfl) ?_ ?_
 ·intro h16;refine uO 26 ?_;refine ft ?_;exact .inr ⟨eB (ff (d:=(aT.d2 ⟨self,next,ka,kc,hs⟩)) (by show self<0∨16≤self∨next<0∨4611686018427387904<next;omega)),rfl,O.nil⟩
 ·intro h16;refine uO 1 ?_;refine u1 0 (aa rfl jT) ?_;refine u1 0 (ld rfl) ?_;refine aK 0 0 (dH rfl rfl) ?_ ?_
  ·intro h20;refine uO 22 ?_;refine ft ?_;exact .inr ⟨eB (ff (d:=(aT.d2 ⟨self,next,ka,kc,hs⟩)) (by show self<0∨16≤self∨next<0∨4611686018427387904<next;omega)),rfl,O.nil⟩
  ·intro h20;refine uO 2 ?_;refine u1 0 (aa rfl jP) ?_;refine u1 0 (ld rfl) ?_;refine aK 0 0 (aq rfl rfl) ?_ ?_
   ·intro h25;refine uO 17 ?_;refine ft ?_;exact .inr ⟨eB (ff (d:=(aT.d2 ⟨self,next,ka,kc,hs⟩)) (by show self<0∨16≤self∨next<0∨4611686018427387904<next;omega)),rfl,O.nil⟩
   ·intro h25;refine uO 2 ?_;refine u1 0 (aa rfl jP) ?_;refine u1 0 (ld rfl) ?_;refine aK 0 0 (dx rfl rfl) ?_ ?_
    ·intro h30;refine uO 12 ?_;refine ft ?_;exact .inr ⟨eB (ff (d:=(aT.d2 ⟨self,next,ka,kc,hs⟩)) (by show self<0∨16≤self∨next<0∨4611686018427387904<next;omega)),rfl,O.nil⟩
    ·intro h30;refine uO 8 ?_;intro a I;refine nF I rfl rfl aW j5 rfl rfl rfl (by simp[Value.oneCell']) O ?_;clear I a O;intro A32 w O;refine uO 5 ?_;intro a I;change Sat W w (row 5 1 (.slice A32 ([3]).length 1) ([3]).length (([3]).map ai)::_) at O;have hfs0:0≤self:=by omega
     have hfn0:0≤next:=by omega
     obtain⟨sf,hsf⟩:=Int.eq_ofNat_of_zero_le hfs0;obtain⟨nx,hnx⟩:=Int.eq_ofNat_of_zero_le hfn0;have hst:self.toNat=sf:=by omega
     have hnt:next.toNat=nx:=by omega
     refine rO 1 I ?_;clear I a;refine u1 0 (aa rfl jT) ?_;refine u1 0 (ld rfl) ?_;refine uF rfl (fP _ _ _ A32 1 [3] self O (by omega) (by omega) (by simp)) ?_;clear O;rintro e w ⟨An36,cn36,rfl,O⟩;have hn36:=nine (n:=self.toNat) (by omega);refine uO 3 ?_;intro a I;replace I:=I.kp [0,3,4,5,6] rfl;refine rC 3 I ?_;clear I a;refine u1 0 (aa rfl jP) ?_;refine u1 0 (ld rfl) ?_;refine uF rfl (fP _ _ _ _ _ _ next O (by omega) (by omega) (by simp only[List.length_append,List.length_cons,List.length_nil];omega)) ?_;clear O;rintro e w ⟨An40,cn40,rfl,O⟩;have hn40:=nine (n:=next.toNat) (by omega);refine uO 6 ?_;refine u1 0 (aa rfl cJ) ?_;refine u1 0 (ld rfl) ?_;refine u1 0 (ak rfl fF) ?_
     refine uF rfl (iH _ _ _ _ _ _ (hs.length) O (by omega) (by (simp only[List.length_append,List.length_cons,List.length_nil];omega))) ?_;clear O;rintro e w ⟨An45,cn45,rfl,O⟩;have hn45:=nine (n:=hs.length) (by omega);refine uO 15 ?_;intro a I
     refine wp_loop_ghost (fun (mm:Nat) a w=>∃(i:Nat) (out:List UInt8) (Ao:Option Addr) (co:Nat),Ag a 121 [(0,.int .i64 2),(3,.pointer (some ⟨b3,0,none⟩)),(6,.slice Ao (out).length co),(7,.int .i64 ((iO (ahead none ((hs.map KL.n2).map NL.d) i)))),(8,.int .i64 ((i:Nat):Int))]∧Sat W w ([row 5 1 (.slice Ao (out).length co) (out).length ((out).map ai),a6 b3 (.cells #[.int .i64 self,.int .i64 next,.slice ka hs.length kc] 24)])∧(i≤hs.length)∧(out=dv self.toNat next.toNat hs.length++bg 2 (((hs.map KL.n2).take i).map NL.d))∧(∀j z,j<i→hs[j]?=some z→bz z.s.d=true)∧(∀j z,j<i→((hs.map KL.n2).map NL.d)[j]?=some z→cK (ahead none ((hs.map KL.n2).map NL.d) j) z=true)∧(out.length≤40+i * 8000000000)∧mm=hs.length-i) hs.length ?_ ?_
     ·replace I:=I.kp [0,3,6,7,8] rfl;exact⟨0,_,_,_,I,(oW O),(by omega),(by rw[show ([3]:List UInt8)=aE 3 from by rw[fx (by decide)];rfl];simp[dv,bg]),(by intro j z hj;omega),(by intro j z hj;omega),(by simp only[List.length_append,List.length_cons,List.length_nil];omega),by omega⟩
     intro m a w hI;clear O I;obtain⟨i,out,Ao,co,I,O,hi,ho,hok,hct,hol,rfl⟩:=hI;refine rC 4 I ?_;clear I a;refine u1 0 (aa rfl cJ) ?_;refine u1 0 (ld rfl) ?_;refine u1 0 (ak rfl fF) ?_;refine aK 0 0 (aq rfl rfl) ?_ ?_
     ·intro h50;refine uO 10 ?_;refine u1 0 (aa rfl cJ) ?_;refine u1 1 (ld rfl) ?_;obtain⟨ka_p,rfl⟩:∃q,ka=some q:=(hR.sat O).ao (by omega);obtain⟨x,hx⟩:∃zz_,hs[i]?=some zz_:=⟨_,List.getElem?_eq_getElem (by omega)⟩;have hxm:=List.mem_of_getElem? hx;have hib:=(jg (M:=((hs.map KL.n2).map NL.d)) (i:=i) (by rw[List.length_map,List.length_map];omega) hct);refine u1 0 (ix rfl rfl fF lu) ?_;refine u1 0 (ax (cs:=iQ x) rfl Io lu (fun j u e=>bI (hR.sat O) (fo hx j u e))) ?_;refine uF rfl (tA _ x ((hSo x hxm).sat O) (hSm x hxm)) ?_;rintro e w ⟨A60,c60,he,hT⟩;cases h60:bz x.s.d
      ·rw[fH h60,jE h60]at he;subst he;rw[fH h60]at hT;replace O:=O.au hT;clear hT;refine uO 1 ?_;refine u1 0 (an rfl rfl) ?_;refine u1 8 (an rfl rfl) ?_;refine u1 7 (et (aG rfl rfl) (by omega)) ?_;have hlc:=qT (M:=((hs.map KL.n2).map NL.d)) (i:=i) (by rw[List.length_map,List.length_map];omega) hct;refine uO 28 ?_;refine ft ?_;exact .inr ⟨sW (d:=(aT.d2 ⟨self,next,_,kc,hs⟩)) (List.mem_of_getElem? (ib hx)) h60,rfl,O.nil⟩
      ·rw[eJ h60,ir h60]at he;subst he;rw[eJ h60]at hT;replace O:=O.au hT;clear hT;have hfx:aB x.s.d=true:=dZ h60;have hsl:=xV (k:=2) (by decide) hfx (hSm x hxm);have hns:=nine (n:=(cq 2 x.s.d).length) (by omega);refine uO 1 ?_;refine u1 0 (an rfl rfl) ?_;refine u1 8 (an rfl rfl) ?_;refine u1 1 (dY (aG rfl rfl) (by omega)) ?_;refine u1 0 (aa rfl cJ) ?_;refine u1 1 (ld rfl) ?_;refine u1 0 (ix rfl rfl fF lu) ?_;refine u1 0 (aw rfl jZ) ?_;refine u1 0 (aj rfl dE (bI (hR.sat O) (fo hx 0 _ rfl))) ?_;have hlc:=qT (M:=((hs.map KL.n2).map NL.d)) (i:=i) (by rw[List.length_map,List.length_map];omega) hct;refine uO 1 ?_;refine aK 0 0 (dU rfl rfl) ?_ ?_
       ·intro h73;refine uO 26 ?_;refine ft ?_;exact .inr ⟨qI (d:=(aT.d2 ⟨self,next,_,kc,hs⟩)) (ib hx) (oV (by show x.ba≤iO (ahead none ((hs.map KL.n2).map NL.d) i)∨64≤x.ba;omega)),rfl,O.nil⟩
       ·intro h73;refine uO 2 ?_;refine u1 0 (aa rfl cJ) ?_;refine u1 1 (ld rfl) ?_;refine u1 0 (ix rfl rfl fF lu) ?_;refine u1 0 (aw rfl jZ) ?_;refine u1 0 (aj rfl dE (bI (hR.sat O) (fo hx 0 _ rfl))) ?_;refine aK 0 0 (dH rfl rfl) ?_ ?_
        ·intro h82;refine uO 17 ?_;refine ft ?_;exact .inr ⟨qI (d:=(aT.d2 ⟨self,next,_,kc,hs⟩)) (ib hx) (oV (by show x.ba≤iO (ahead none ((hs.map KL.n2).map NL.d) i)∨64≤x.ba;omega)),rfl,O.nil⟩
        ·intro h82;refine uO 8 ?_;have hcf:=wE (ib hx) (by show ¬x.ba≤iO (ahead none ((hs.map KL.n2).map NL.d) i);omega) (by show ¬64≤x.ba;omega) hct;have hxc0:0≤x.ba:=by omega
         refine u1 0 (aa rfl cJ) ?_;refine u1 1 (ld rfl) ?_;refine u1 0 (ix rfl rfl fF lu) ?_;refine u1 0 (aw rfl jZ) ?_;refine u1 7 (aj rfl dE (bI (hR.sat O) (fo hx 0 _ rfl))) ?_;refine uF rfl (fP _ _ _ Ao co out x.ba (O.p 1) (by omega) (by omega) (by omega)) ?_;clear O;rintro e w ⟨An92,cn92,rfl,O⟩;have hn92:=nine (n:=x.ba.toNat) (by omega);refine uO 7 ?_;refine u1 0 (ak rfl aW) ?_;refine uF rfl (iH _ _ _ _ _ _ ((cq 2 x.s.d).length) O (by omega) (by (simp only[List.length_append,List.length_cons,List.length_nil];omega))) ?_;clear O;rintro e w ⟨An96,cn96,rfl,O⟩;have hn96:=nine (n:=(cq 2 x.s.d).length) (by omega);refine uO 9 ?_;intro a I
         refine wp_loop_ghost (fun (mm:Nat) a w=>∃(j:Nat) (ou:List UInt8) (Ai:Option Addr) (ci:Nat),Ag a 121 [(0,.int .i64 2),(3,.pointer (some ⟨b3,0,none⟩)),(6,.slice Ai (ou).length ci),(7,.int .i64 (x.ba)),(8,.int .i64 ((i:Nat):Int)),(9,.slice A60 ((cq 2 x.s.d)).length c60),(11,.int .i64 ((j:Nat):Int))]∧Sat W w ([row 5 1 (.slice Ai (ou).length ci) (ou).length ((ou).map ai),row 5 1 (.slice A60 ((cq 2 x.s.d)).length c60) ((cq 2 x.s.d)).length (((cq 2 x.s.d)).map ai),a6 b3 (.cells #[.int .i64 self,.int .i64 next,.slice (some ka_p) hs.length kc] 24)])∧(j≤(cq 2 x.s.d).length)∧(ou=(out++aE x.ba.toNat++aE (cq 2 x.s.d).length)++(cq 2 x.s.d).take j)∧(ou.length=(out++aE x.ba.toNat++aE (cq 2 x.s.d).length).length+j)∧mm=(cq 2 x.s.d).length-j) (cq 2 x.s.d).length ?_ ?_
         ·replace I:=I.kp [0,3,6,7,8,9,11] rfl;exact⟨0,_,_,_,I,(pw O),(by omega),(by simp),(by omega),by omega⟩
         intro m a w hI;clear O I;obtain⟨j,ou,Ai,ci,I,O,hj,hoi,hoil,rfl⟩:=hI;refine rC 5 I ?_;clear I a;refine u1 0 (ak rfl aW) ?_;refine aK 0 0 (aq rfl rfl) ?_ ?_
         ·intro h100;refine uO 11 ?_;obtain⟨A60_p,rfl⟩:∃q,A60=some q:=(O.p 1).rd.ao (by omega);obtain⟨y,hy⟩:∃zz_,(cq 2 x.s.d)[j]?=some zz_:=⟨_,List.getElem?_eq_getElem (by omega)⟩;refine u1 0 (ix rfl rfl aW mJ) ?_;refine u1 0 (aj rfl o0 (eO (O.p 1).rd (aV hy))) ?_;intro a I;refine nF I rfl rfl aW j5 rfl rfl rfl (by simp[Value.oneCell',ai]) O ?_;clear I a O;intro A108 w O;intro a I;refine dj I rfl rfl rfl aW j5 rfl (O.p 1) (O.rd.src aW (by simp[Value.oneCell',ai])) (by simp only[List.length_append]at *;omega) (by simp only[List.length_append]at *;omega) ?_;clear I a O;intro A109 c109 w hc109 O;refine uO 6 ?_;refine u1 2 (ad rfl rfl) ?_;intro a I;replace I:=I.kp [0,3,6,7,8,9,11] rfl;have e1:(ou).map ai++[ai y]=(ou++[y]).map ai:=by simp
          have e2:(ou).length+1=(ou++[y]).length:=by simp
          rw[e1,e2]at O;rw[e2]at I;clear e1 e2;refine⟨(cq 2 x.s.d).length-(j+1),by omega,j+1,ou++[y],_,_,I,pw (((O.p 3).p 3).p 2),by omega,?_,by simp only[List.length_append,List.length_cons,List.length_nil]at *;omega,rfl⟩;rw[hoi,ay hy];simp only[List.append_assoc]
         ·intro h100;refine uO 11 ?_;refine u1 2 (ad rfl rfl) ?_;intro a I;replace I:=I.kp [0,3,6,7,8] rfl;have hje:j=(cq 2 x.s.d).length:=by omega
          rw[hje,List.take_length]at hoi;have e6:x.ba=iO (ahead none ((hs.map KL.n2).map NL.d) (i+1)):=by rw[cG (ib hx)];rfl
          refine⟨hs.length-(i+1),by omega,i+1,ou,Ai,ci,?_,oW ((O.p 2).p 1),by omega,?_,?_,?_,?_,rfl⟩
          ·rw[←e6];exact I
          ·rw[hoi,ho,nn (x:=x.n2) (by rw[List.getElem?_map,hx];rfl)];simp only[List.append_assoc];rfl
          ·exact fun j z hj hz=>(by rcases Nat.lt_or_ge j i with h | h;exact hok j z h hz;obtain rfl:j=i:=(by omega);rw[hx]at hz;cases hz;exact h60)
          ·exact fun j z hj hz=>(by rcases Nat.lt_or_ge j i with h | h;exact hct j z h hz;obtain rfl:j=i:=(by omega);rw[ib hx]at hz;cases hz;exact hcf)
          ·rw[hoi];simp only[List.length_append];have:=Nat.succ_mul i 8000000000;omega
     ·intro h50;refine uO 8 ?_;intro a I;replace I:=I.kp [6] rfl;refine rC 3 I ?_;clear I a;refine uF rfl (sE _ Ao co out O.rd (by have hib:=(jg (M:=((hs.map KL.n2).map NL.d)) (i:=i) (by rw[List.length_map,List.length_map];omega) hct);omega)) ?_;rintro e w ⟨rfl,hT⟩;replace O:Sat _ _ _:=O.ag hT;clear hT;have hslt:=kl out;have hib:=(jg (M:=((hs.map KL.n2).map NL.d)) (i:=i) (by rw[List.length_map,List.length_map];omega) hct);refine uO 1 ?_;refine u1 0 (an rfl rfl) ?_;refine u1 8 (an rfl rfl) ?_;refine uF rfl (jo _ _ _ Ao co out (aU out).1 O (by omega) (by omega)) ?_;clear O;rintro e w ⟨A117,c117,rfl,O⟩;refine uO 7 ?_;refine uF rfl (jo _ _ _ _ _ _ (aU out).2 O (by omega) (by simp only[List.length_append,eI];omega)) ?_;clear O;rintro e w ⟨A120,c120,rfl,O⟩;refine uO 5 ?_;refine ft ?_
      have hie:i=hs.length:=by omega
      rw[hie,List.take_of_length_le (by rw[List.length_map];omega)]at ho;have hbd:out=dn 2 (aT.d2 ⟨self,next,ka,kc,hs⟩):=by rw[ho];unfold dn;show dv self.toNat next.toNat hs.length++bg 2 ((hs.map KL.n2).map NL.d)=dv self.toNat next.toNat ((hs.map KL.n2).map NL.d).length++bg 2 ((hs.map KL.n2).map NL.d);rw[List.length_map,List.length_map]
      have hsl:out++cn (aU out).1++cn (aU out).2=dg out:=by unfold dg;rw[List.append_assoc]
      rw[hsl]at O ⊢;subst hbd;refine .inl ⟨rD (te (d:=(aT.d2 ⟨self,next,ka,kc,hs⟩)) (by show 0≤self;omega) (by show self<16;omega) (by show 0≤next;omega) (by show next≤_;omega) (fun j z hz=>hct j z (by have:=(List.getElem?_eq_some_iff.1 hz).1;simp only[aT.d2,List.length_map]at this;omega) hz)) fun y hy=>?_,_,_,rfl,bY O⟩;have hy:y∈((hs.map KL.n2).map NL.d):=hy;obtain⟨z,hz,rfl⟩:=List.mem_map.1 hy;obtain⟨z2,hz2,rfl⟩:=List.mem_map.1 hz;obtain⟨j,hj⟩:=List.mem_iff_getElem?.1 hz2;exact hok j z2 (by have:=(List.getElem?_eq_some_iff.1 hj).1;omega) hj
theorem EC {a b:nJ}(h1:a.ba=b.ba)(h2:a.st=b.st):a=b:=by
 cases a;cases b;simp only at h1 h2;subst h1 h2;rfl
theorem Ci {d d':dB}(h1:d.self=d'.self)(h2:d.next=d'.next)(h3:d.hs.length=d'.hs.length)(h4:∀(j:Nat) (u v:nJ),d.hs[j]?=some u→d'.hs[j]?=some v→u=v):d=d':=by
 have h5:d.hs=d'.hs:=wc h3 fun j hj=>by
  have hv:d'.hs[j]?=some (d'.hs[j]'(by omega)):=List.getElem?_eq_getElem (by omega);rw[hv,List.getElem?_eq_getElem hj,h4 j _ _ (List.getElem?_eq_getElem hj) hv]
 cases d;cases d';simp only at h1 h2 h5;subst h1 h2 h5;rfl
theorem j1 (W:World)(d g:aT)(hp:d.ok W)(hs0:d.small)(gp:g.ok W)(gs0:g.small):Calls Tryz.prog 16 #[.int .i64 1,.agg #[.int .i64 d.self,.int .i64 d.next,.slice d.a d.hs.length d.c],.agg #[.int .i64 g.self,.int .i64 g.next,.slice g.a g.hs.length g.c]] W fun e w'=>e=.returned (.bool (decide (d.d1=g.d1)))∧Sat W w' []:=by
 refine bP Tryz.func16 [0,1,2] ?_;have O:=Sat.start W;obtain⟨us,un,xa,xc,hs⟩:=d;obtain⟨vs,vn,ya,yc,gs⟩:=g;have hR:Rd W 9 (.slice xa hs.length xc) hs.length (hs.flatMap iQ):=hp.top;have hQ:Rd W 9 (.slice ya gs.length yc) gs.length (gs.flatMap iQ):=gp.top;have hFx:∀h∈hs,h.f.ok W:=hp.GZ;have hFy:∀h∈gs,h.f.ok W:=gp.GZ;have hMx:∀h∈hs,j0 h.f:=hs0.Ho;have hMy:∀h∈gs,j0 h.f:=gs0.Ho;have hlx:hs.length≤1000000000:=hs0.len;have hly:gs.length≤1000000000:=gs0.len;intro a I;dsimp only at I ⊢;refine rC 2 I ?_;clear I a;refine uB rfl O ?_;clear O;intro b4 w O;refine uB rfl O ?_;clear O;intro b5 w O;refine uO 6 ?_;refine u1 0 (aa rfl jT) ?_;refine u1 0 (ld rfl) ?_;refine u1 0 (aa rfl jT) ?_;refine u1 0 (ld rfl) ?_;refine aK 0 0 (aG rfl rfl) ?_ ?_
 ·intro h12;refine uO 26 ?_;refine aS ?_;rw[decide_eq_false fun (e:aT.d1 ⟨us,un,_,xc,hs⟩=aT.d1 ⟨vs,vn,_,yc,gs⟩)=>(by have h1:us=vs:=congrArg dB.self e;omega)];exact⟨rfl,O.nil⟩
 ·intro h12;refine uO 1 ?_;refine u1 0 (aa rfl jP) ?_;refine u1 0 (ld rfl) ?_;refine u1 0 (aa rfl jP) ?_;refine u1 0 (ld rfl) ?_;refine aK 0 0 (aG rfl rfl) ?_ ?_
  ·intro h18;refine uO 20 ?_;refine aS ?_;rw[decide_eq_false fun (e:aT.d1 ⟨us,un,_,xc,hs⟩=aT.d1 ⟨vs,vn,_,yc,gs⟩)=>(by have h1:un=vn:=congrArg dB.next e;omega)];exact⟨rfl,O.nil⟩
  ·intro h18;refine uO 2 ?_;refine u1 0 (aa rfl cJ) ?_;refine u1 0 (ld rfl) ?_;refine u1 0 (ak rfl fF) ?_;refine u1 0 (aa rfl cJ) ?_;refine u1 0 (ld rfl) ?_;refine u1 0 (ak rfl fF) ?_;refine aK 0 0 (aG rfl rfl) ?_ ?_
   ·intro h27;refine uO 11 ?_;refine aS ?_;rw[decide_eq_false fun (e:aT.d1 ⟨us,un,_,xc,hs⟩=aT.d1 ⟨vs,vn,_,yc,gs⟩)=>(by have h1:=congrArg (fun d:dB=>d.hs.length) e;simp only[aT.d1,List.length_map]at h1;omega)];exact⟨rfl,O.nil⟩
   ·intro h27;refine uO 13 ?_;intro a I;refine wp_loop_ghost (fun (mm:Nat) a w=>∃(i:Nat),Ag a 85 [(0,.int .i64 1),(4,.pointer (some ⟨b4,0,none⟩)),(5,.pointer (some ⟨b5,0,none⟩)),(7,.int .i64 ((i:Nat):Int))]∧Sat W w ([a6 b5 (.cells #[.int .i64 vs,.int .i64 vn,.slice ya gs.length yc] 24),a6 b4 (.cells #[.int .i64 us,.int .i64 un,.slice xa hs.length xc] 24)])∧(i≤hs.length)∧(∀j u v,j<i→((hs.map KL.n1).map NL.d)[j]?=some u→((gs.map KL.n1).map NL.d)[j]?=some v→u=v)∧mm=hs.length-i) hs.length ?_ ?_
    ·replace I:=I.kp [0,4,5,7] rfl;exact⟨0,I,O,(by omega),(by intro j u v hj;omega),by omega⟩
    intro m a w hI;clear O I;obtain⟨i,I,O,hi,he,rfl⟩:=hI;refine rC 4 I ?_;clear I a;refine u1 0 (aa rfl cJ) ?_;refine u1 0 (ld rfl) ?_;refine u1 0 (ak rfl fF) ?_;refine aK 0 0 (aq rfl rfl) ?_ ?_
    ·intro h33;refine uO 9 ?_;intro a I;refine cD (fun w'=>Sat _ w' _) (by kernel_rfl) (by kernel_rfl) O.drew ?_;refine Q1 0 I (fun w O=>(aa (I.ev rfl) cJ)) ?_;clear I a;refine bc 1 (fun w O=>(ld rfl)) ?_;obtain⟨xa_p,rfl⟩:∃q,xa=some q:=(hR.sat O).ao (by omega);obtain⟨x,hx⟩:∃zz_,hs[i]?=some zz_:=⟨_,List.getElem?_eq_getElem (by omega)⟩;refine bc 0 (fun w O=>(ix rfl rfl fF lu)) ?_;refine bc 0 (fun w O=>(aw rfl jZ)) ?_;refine bc 0 (fun w O=>(aj rfl dE (bI (hR.sat O) (fo hx 0 _ rfl)))) ?_;refine bc 0 (fun w O=>(aa rfl cJ)) ?_;refine bc 1 (fun w O=>(ld rfl)) ?_;obtain⟨ya_p,rfl⟩:∃q,ya=some q:=(hQ.sat O).ao (by omega);obtain⟨y,hy⟩:∃zz_,gs[i]?=some zz_:=⟨_,List.getElem?_eq_getElem (by omega)⟩
     refine bc 0 (fun w O=>(ix rfl rfl fF lu)) ?_;refine bc 0 (fun w O=>(aw rfl jZ)) ?_;refine bc 0 (fun w O=>(aj rfl dE (bI (hQ.sat O) (fo hy 0 _ rfl)))) ?_;intro a I;refine K.rn I rfl rfl rfl (fun w O=>(aG (I.ev rfl) (I.ev rfl))) ?_ ?_
     ·clear I a;intro h48;intro a I;refine wpQuiet_nil ?_;clear O;intro w O;refine rE 14 I ?_;clear I a;refine aS ?_;rw[decide_eq_false fun (e:aT.d1 ⟨us,un,_,xc,hs⟩=aT.d1 ⟨vs,vn,_,yc,gs⟩)=>(by have h1:((hs.map KL.n1).map NL.d)[i]?=((gs.map KL.n1).map NL.d)[i]?:=congrArg (fun d:dB=>d.hs[i]?) e;rw[hJ hx,hJ hy]at h1;have h2:x.ba=y.ba:=congrArg nJ.ba (Option.some.inj h1);omega)];exact⟨rfl,O.nil⟩
     ·clear I a;intro h48;intro a I;refine wpQuiet_nil ?_;clear O;intro w O;refine rE 6 I ?_;clear I a;intro a I;refine bj [15] O (by kernel_rfl) ?_;replace O:=O.drew;refine rX [0] I ?_;clear I a;refine bx 1 [2] rfl (fun w=>(et (aY rfl rfl) (by omega))) ?_;refine bx 3 [] rfl (fun w=>(aa rfl cJ)) ?_;refine cP 4 [5] rfl (by exact⟨[],O⟩) (fun w hT=>have O:=hT.sat;(ld rfl)) ?_;refine bx 6 [] rfl (fun w=>(ix rfl rfl fF lu)) ?_;refine bx 7 [] rfl (fun w=>(aw rfl xX)) ?_;intro a I;refine X1 8 [] I rfl (by exact⟨[],O⟩) (fun w hT=>have O:=hT.sat;(ax (cs:=[.slice x.f.e.a x.f.e.es.length x.f.e.c,.slice x.f.p.va x.f.p.d.vec.length x.f.p.vc,.slice x.f.p.ca x.f.p.d.ab.length x.f.p.cc,.slice x.f.r.a x.f.r.rs.length x.f.r.c]) (I.ev rfl) x5 ke (fun j u e=>kV (hR.sat O) (fo hx _ u (Hq x j u e))))) ?_;clear I a
      refine bx 9 [] rfl (fun w=>(aa rfl cJ)) ?_;refine cP 10 [11] rfl (by exact⟨[],O⟩) (fun w hT=>have O:=hT.sat;(ld rfl)) ?_;refine bx 12 [] rfl (fun w=>(ix rfl rfl fF lu)) ?_;refine bx 13 [] rfl (fun w=>(aw rfl xX)) ?_;intro a I;refine X1 14 [] I rfl (by exact⟨[],O⟩) (fun w hT=>have O:=hT.sat;(ax (cs:=[.slice y.f.e.a y.f.e.es.length y.f.e.c,.slice y.f.p.va y.f.p.d.vec.length y.f.p.vc,.slice y.f.p.ca y.f.p.d.ab.length y.f.p.cc,.slice y.f.r.a y.f.r.rs.length y.f.r.c]) (I.ev rfl) x5 ke (fun j u e=>kV (hQ.sat O) (fo hy _ u (Hq y j u e))))) ?_;clear I a;intro a I;refine aD 15 (by kernel_rfl) ?_
      refine Ft I rfl (aL I rfl rfl rfl) rfl JQ rfl (o7 _ x.f y.f ((hFx x (List.mem_of_getElem? hx)).sat O) (hMx x (List.mem_of_getElem? hx)) ((hFy y (List.mem_of_getElem? hy)).sat O) (hMy y (List.mem_of_getElem? hy))) ?_;clear I a;rintro e w ⟨rfl,hT⟩;replace O:Sat _ _ _:=O.ag hT;clear hT;by_cases h64:x.f.d=y.f.d
      ·rw[decide_eq_true h64];refine⟨_,rfl,?_⟩;intro a I;refine⟨.inl rfl,?_⟩;refine P1 16 [17] I rfl (fun w=>(aI (I.ev rfl))) ?_;clear I a;intro a I;refine ah (by kernel_rfl) ?_ _;refine rE 5 I ?_;clear I a;intro a I;refine bj [15] O (by kernel_rfl) ?_;replace O:=O.drew;refine rX [0] I ?_;clear I a;refine bx 1 [2,3,4,5,6,7,8,9,10,11,12,13,14,15,16,17] rfl (fun w=>(dY (aY rfl rfl) (by omega))) ?_;intro a I;refine ah (by kernel_rfl) ?_ _;refine rE 7 I ?_;clear I a;refine u1 2 (ad rfl rfl) ?_;intro a I;replace I:=I.kp [0,4,5,7] rfl;have hcc:x.ba=y.ba:=by omega
       have hnn:x.n1.d=y.n1.d:=EC hcc h64;exact⟨hs.length-(i+1),by omega,i+1,I,O,by omega,fun j u v hj hu hv=>(by rcases Nat.lt_or_ge j i with h | h;exact he j u v h hu hv;obtain rfl:j=i:=(by omega);rw[hJ hx]at hu;rw[hJ hy]at hv;cases hu;cases hv;exact hnn),rfl⟩
      ·rw[decide_eq_false h64];refine⟨_,rfl,?_⟩;intro a I;refine⟨.inl rfl,?_⟩;refine P1 16 [17] I rfl (fun w=>(aI (I.ev rfl))) ?_;clear I a;intro a I;refine ah (by kernel_rfl) ?_ _;refine rE 14 I ?_;clear I a;refine aS ?_;rw[decide_eq_false fun (e:aT.d1 ⟨us,un,_,xc,hs⟩=aT.d1 ⟨vs,vn,_,yc,gs⟩)=>(by have h1:((hs.map KL.n1).map NL.d)[i]?=((gs.map KL.n1).map NL.d)[i]?:=congrArg (fun d:dB=>d.hs[i]?) e;rw[hJ hx,hJ hy]at h1;have h2:x.f.d=y.f.d:=congrArg nJ.st (Option.some.inj h1);exact h64 h2)];exact⟨rfl,O.nil⟩
    ·intro h33;refine uO 8 ?_;intro a I;replace I:=I.kp [] rfl;refine rC 6 I ?_;clear I a;refine aS ?_;rw[decide_eq_true (Ci (d:=aT.d1 ⟨us,un,xa,xc,hs⟩) (d':=aT.d1 ⟨vs,vn,ya,yc,gs⟩) (by show us=vs;omega) (by show un=vn;omega) (by show ((hs.map KL.n1).map NL.d).length=((gs.map KL.n1).map NL.d).length;simp only[List.length_map];omega) (fun j u v hu hv=>he j u v (by have:=(List.getElem?_eq_some_iff.1 hu).1;simp only[aT.d1,List.length_map]at this;omega) hu hv))];exact⟨rfl,O.nil⟩
theorem j4 (W:World)(d g:aT)(hp:d.ok W)(hs0:d.small)(gp:g.ok W)(gs0:g.small):Calls Tryz.prog 16 #[.int .i64 2,.agg #[.int .i64 d.self,.int .i64 d.next,.slice d.a d.hs.length d.c],.agg #[.int .i64 g.self,.int .i64 g.next,.slice g.a g.hs.length g.c]] W fun e w'=>e=.returned (.bool (decide (d.d2=g.d2)))∧Sat W w' []:=by
 refine bP Tryz.func16 [0,1,2] ?_;have O:=Sat.start W;obtain⟨us,un,xa,xc,hs⟩:=d;obtain⟨vs,vn,ya,yc,gs⟩:=g;have hR:Rd W 9 (.slice xa hs.length xc) hs.length (hs.flatMap iQ):=hp.top;have hQ:Rd W 9 (.slice ya gs.length yc) gs.length (gs.flatMap iQ):=gp.top;have hFx:∀h∈hs,h.s.ok W:=hp.Gp;have hFy:∀h∈gs,h.s.ok W:=gp.Gp;have hMx:∀h∈hs,j0 h.s:=hs0.HE;have hMy:∀h∈gs,j0 h.s:=gs0.HE;have hlx:hs.length≤1000000000:=hs0.len;have hly:gs.length≤1000000000:=gs0.len;intro a I;dsimp only at I ⊢;refine rC 2 I ?_;clear I a;refine uB rfl O ?_;clear O;intro b4 w O;refine uB rfl O ?_;clear O;intro b5 w O;refine uO 6 ?_;refine u1 0 (aa rfl jT) ?_;refine u1 0 (ld rfl) ?_;refine u1 0 (aa rfl jT) ?_;refine u1 0 (ld rfl) ?_;refine aK 0 0 (aG rfl rfl) ?_ ?_
 ·intro h12;refine uO 26 ?_;refine aS ?_;rw[decide_eq_false fun (e:aT.d2 ⟨us,un,_,xc,hs⟩=aT.d2 ⟨vs,vn,_,yc,gs⟩)=>(by have h1:us=vs:=congrArg dB.self e;omega)];exact⟨rfl,O.nil⟩
 ·intro h12;refine uO 1 ?_;refine u1 0 (aa rfl jP) ?_;refine u1 0 (ld rfl) ?_;refine u1 0 (aa rfl jP) ?_;refine u1 0 (ld rfl) ?_;refine aK 0 0 (aG rfl rfl) ?_ ?_
  ·intro h18;refine uO 20 ?_;refine aS ?_;rw[decide_eq_false fun (e:aT.d2 ⟨us,un,_,xc,hs⟩=aT.d2 ⟨vs,vn,_,yc,gs⟩)=>(by have h1:un=vn:=congrArg dB.next e;omega)];exact⟨rfl,O.nil⟩
  ·intro h18;refine uO 2 ?_;refine u1 0 (aa rfl cJ) ?_;refine u1 0 (ld rfl) ?_;refine u1 0 (ak rfl fF) ?_;refine u1 0 (aa rfl cJ) ?_;refine u1 0 (ld rfl) ?_;refine u1 0 (ak rfl fF) ?_;refine aK 0 0 (aG rfl rfl) ?_ ?_
   ·intro h27;refine uO 11 ?_;refine aS ?_;rw[decide_eq_false fun (e:aT.d2 ⟨us,un,_,xc,hs⟩=aT.d2 ⟨vs,vn,_,yc,gs⟩)=>(by have h1:=congrArg (fun d:dB=>d.hs.length) e;simp only[aT.d2,List.length_map]at h1;omega)];exact⟨rfl,O.nil⟩
   ·intro h27;refine uO 13 ?_;intro a I;refine wp_loop_ghost (fun (mm:Nat) a w=>∃(i:Nat),Ag a 85 [(0,.int .i64 2),(4,.pointer (some ⟨b4,0,none⟩)),(5,.pointer (some ⟨b5,0,none⟩)),(7,.int .i64 ((i:Nat):Int))]∧Sat W w ([a6 b5 (.cells #[.int .i64 vs,.int .i64 vn,.slice ya gs.length yc] 24),a6 b4 (.cells #[.int .i64 us,.int .i64 un,.slice xa hs.length xc] 24)])∧(i≤hs.length)∧(∀j u v,j<i→((hs.map KL.n2).map NL.d)[j]?=some u→((gs.map KL.n2).map NL.d)[j]?=some v→u=v)∧mm=hs.length-i) hs.length ?_ ?_
    ·replace I:=I.kp [0,4,5,7] rfl;exact⟨0,I,O,(by omega),(by intro j u v hj;omega),by omega⟩
    intro m a w hI;clear O I;obtain⟨i,I,O,hi,he,rfl⟩:=hI;refine rC 4 I ?_;clear I a;refine u1 0 (aa rfl cJ) ?_;refine u1 0 (ld rfl) ?_;refine u1 0 (ak rfl fF) ?_;refine aK 0 0 (aq rfl rfl) ?_ ?_
    ·intro h33;refine uO 9 ?_;intro a I;refine cD (fun w'=>Sat _ w' _) (by kernel_rfl) (by kernel_rfl) O.drew ?_;refine Q1 0 I (fun w O=>(aa (I.ev rfl) cJ)) ?_;clear I a;refine bc 1 (fun w O=>(ld rfl)) ?_;obtain⟨xa_p,rfl⟩:∃q,xa=some q:=(hR.sat O).ao (by omega);obtain⟨x,hx⟩:∃zz_,hs[i]?=some zz_:=⟨_,List.getElem?_eq_getElem (by omega)⟩;refine bc 0 (fun w O=>(ix rfl rfl fF lu)) ?_;refine bc 0 (fun w O=>(aw rfl jZ)) ?_;refine bc 0 (fun w O=>(aj rfl dE (bI (hR.sat O) (fo hx 0 _ rfl)))) ?_;refine bc 0 (fun w O=>(aa rfl cJ)) ?_;refine bc 1 (fun w O=>(ld rfl)) ?_;obtain⟨ya_p,rfl⟩:∃q,ya=some q:=(hQ.sat O).ao (by omega);obtain⟨y,hy⟩:∃zz_,gs[i]?=some zz_:=⟨_,List.getElem?_eq_getElem (by omega)⟩
     refine bc 0 (fun w O=>(ix rfl rfl fF lu)) ?_;refine bc 0 (fun w O=>(aw rfl jZ)) ?_;refine bc 0 (fun w O=>(aj rfl dE (bI (hQ.sat O) (fo hy 0 _ rfl)))) ?_;intro a I;refine K.rn I rfl rfl rfl (fun w O=>(aG (I.ev rfl) (I.ev rfl))) ?_ ?_
     ·clear I a;intro h48;intro a I;refine wpQuiet_nil ?_;clear O;intro w O;refine rE 14 I ?_;clear I a;refine aS ?_;rw[decide_eq_false fun (e:aT.d2 ⟨us,un,_,xc,hs⟩=aT.d2 ⟨vs,vn,_,yc,gs⟩)=>(by have h1:((hs.map KL.n2).map NL.d)[i]?=((gs.map KL.n2).map NL.d)[i]?:=congrArg (fun d:dB=>d.hs[i]?) e;rw[ib hx,ib hy]at h1;have h2:x.ba=y.ba:=congrArg nJ.ba (Option.some.inj h1);omega)];exact⟨rfl,O.nil⟩
     ·clear I a;intro h48;intro a I;refine wpQuiet_nil ?_;clear O;intro w O;refine rE 6 I ?_;clear I a;intro a I;refine bj [15] O (by kernel_rfl) ?_;replace O:=O.drew;refine rX [0] I ?_;clear I a;refine bx 1 [2,3,4,5,6,7,8,9,10,11,12,13,14,15,16,17] rfl (fun w=>(dY (aY rfl rfl) (by omega))) ?_;intro a I;refine ah (by kernel_rfl) ?_ _;refine rE 5 I ?_;clear I a;intro a I;refine bj [15] O (by kernel_rfl) ?_;replace O:=O.drew;refine rX [0] I ?_;clear I a;refine bx 1 [2] rfl (fun w=>(et (aY rfl rfl) (by omega))) ?_;refine bx 3 [] rfl (fun w=>(aa rfl cJ)) ?_;refine cP 4 [5] rfl (by exact⟨[],O⟩) (fun w hT=>have O:=hT.sat;(ld rfl)) ?_;refine bx 6 [] rfl (fun w=>(ix rfl rfl fF lu)) ?_;refine bx 7 [] rfl (fun w=>(aw rfl yl)) ?_;intro a I
      refine X1 8 [] I rfl (by exact⟨[],O⟩) (fun w hT=>have O:=hT.sat;(ax (cs:=[.slice x.s.e.a x.s.e.es.length x.s.e.c,.slice x.s.p.va x.s.p.d.vec.length x.s.p.vc,.slice x.s.p.ca x.s.p.d.ab.length x.s.p.cc,.slice x.s.r.a x.s.r.rs.length x.s.r.c]) (I.ev rfl) x4 lv (fun j u e=>kV (hR.sat O) (fo hx _ u (HA x j u e))))) ?_;clear I a;refine bx 9 [] rfl (fun w=>(aa rfl cJ)) ?_;refine cP 10 [11] rfl (by exact⟨[],O⟩) (fun w hT=>have O:=hT.sat;(ld rfl)) ?_;refine bx 12 [] rfl (fun w=>(ix rfl rfl fF lu)) ?_;refine bx 13 [] rfl (fun w=>(aw rfl yl)) ?_;intro a I
      refine X1 14 [] I rfl (by exact⟨[],O⟩) (fun w hT=>have O:=hT.sat;(ax (cs:=[.slice y.s.e.a y.s.e.es.length y.s.e.c,.slice y.s.p.va y.s.p.d.vec.length y.s.p.vc,.slice y.s.p.ca y.s.p.d.ab.length y.s.p.cc,.slice y.s.r.a y.s.r.rs.length y.s.r.c]) (I.ev rfl) x4 lv (fun j u e=>kV (hQ.sat O) (fo hy _ u (HA y j u e))))) ?_;clear I a;intro a I;refine aD 15 (by kernel_rfl) ?_;refine Ft I rfl (aL I rfl rfl rfl) rfl J5 rfl (sO _ x.s y.s ((hFx x (List.mem_of_getElem? hx)).sat O) (hMx x (List.mem_of_getElem? hx)) ((hFy y (List.mem_of_getElem? hy)).sat O) (hMy y (List.mem_of_getElem? hy))) ?_;clear I a;rintro e w ⟨rfl,hT⟩;replace O:Sat _ _ _:=O.ag hT;clear hT;by_cases h82:x.s.d=y.s.d
      ·rw[decide_eq_true h82];refine⟨_,rfl,?_⟩;intro a I;refine⟨.inl rfl,?_⟩;refine P1 16 [17] I rfl (fun w=>(aI (I.ev rfl))) ?_;clear I a;intro a I;refine ah (by kernel_rfl) ?_ _;refine rE 7 I ?_;clear I a;refine u1 2 (ad rfl rfl) ?_;intro a I;replace I:=I.kp [0,4,5,7] rfl;have hcc:x.ba=y.ba:=by omega
       have hnn:x.n2.d=y.n2.d:=EC hcc h82;exact⟨hs.length-(i+1),by omega,i+1,I,O,by omega,fun j u v hj hu hv=>(by rcases Nat.lt_or_ge j i with h | h;exact he j u v h hu hv;obtain rfl:j=i:=(by omega);rw[ib hx]at hu;rw[ib hy]at hv;cases hu;cases hv;exact hnn),rfl⟩
      ·rw[decide_eq_false h82];refine⟨_,rfl,?_⟩;intro a I;refine⟨.inl rfl,?_⟩;refine P1 16 [17] I rfl (fun w=>(aI (I.ev rfl))) ?_;clear I a;intro a I;refine ah (by kernel_rfl) ?_ _;refine rE 13 I ?_;clear I a;refine aS ?_;rw[decide_eq_false fun (e:aT.d2 ⟨us,un,_,xc,hs⟩=aT.d2 ⟨vs,vn,_,yc,gs⟩)=>(by have h1:((hs.map KL.n2).map NL.d)[i]?=((gs.map KL.n2).map NL.d)[i]?:=congrArg (fun d:dB=>d.hs[i]?) e;rw[ib hx,ib hy]at h1;have h2:x.s.d=y.s.d:=congrArg nJ.st (Option.some.inj h1);exact h82 h2)];exact⟨rfl,O.nil⟩
    ·intro h33;refine uO 8 ?_;intro a I;replace I:=I.kp [] rfl;refine rC 6 I ?_;clear I a;refine aS ?_;rw[decide_eq_true (Ci (d:=aT.d2 ⟨us,un,xa,xc,hs⟩) (d':=aT.d2 ⟨vs,vn,ya,yc,gs⟩) (by show us=vs;omega) (by show un=vn;omega) (by show ((hs.map KL.n2).map NL.d).length=((gs.map KL.n2).map NL.d).length;simp only[List.length_map];omega) (fun j u v hu hv=>he j u v (by have:=(List.getElem?_eq_some_iff.1 hu).1;simp only[aT.d2,List.length_map]at this;omega) hu hv))];exact⟨rfl,O.nil⟩
theorem tj (W:World)(d:aT)(hp:d.ok W)(hs0:d.small):Calls Tryz.prog 20 #[.agg #[.int .i64 d.self,.int .i64 d.next,.slice d.a d.hs.length d.c]] W fun e w'=>∃g:DL,g.self=d.self∧g.next=d.next∧g.hs=d.hs.map KL.n1∧e=.returned (.agg #[.int .i64 g.self,.int .i64 g.next,.slice g.a g.hs.length g.c])∧Sat W w' [row 68 5 (.slice g.a (g.hs).length g.c) (g.hs).length ((g.hs).flatMap fX)]:=by
 refine bP Tryz.func20 [0] ?_;have O:=Sat.start W;obtain⟨self,next,ka,kc,hs⟩:=d;have hR:Rd W 9 (.slice ka hs.length kc) hs.length (hs.flatMap iQ):=hp.top;have hF:∀h∈hs,h.f.ok W:=hp.GZ;have hSo:∀h∈hs,h.s.ok W:=hp.Gp;have hl:hs.length≤1000000000:=hs0.len;have hFm:∀h∈hs,j0 h.f:=hs0.Ho;have hSm:∀h∈hs,j0 h.s:=hs0.HE;intro a I;dsimp only at I ⊢;refine rC 2 I ?_;clear I a;refine uB rfl O ?_;clear O;intro b1 w O;refine uN CV O ?_;clear O;intro b2 w O;refine uO 4 ?_;refine u1 0 (aa rfl jT) ?_;refine u1 0 (ld rfl) ?_;refine u1 0 (aa rfl jP) ?_;refine u1 0 (ld rfl) ?_;intro a I;refine o1 0 I (aM I rfl Et) ?_;clear I a;refine uN CV O ?_;clear O;intro b3 w O;refine uW (vs:=[_,_,_]) (cs':=[_,_,_]) rfl rfl pY O ?_;clear O;intro w O;refine uO 9 ?_;intro a I
 refine wp_loop_ghost (fun (mm:Nat) a w=>∃(i:Nat) (Ao:Option Addr) (co:Nat),Ag a 36 [(1,.pointer (some ⟨b1,0,none⟩)),(2,.pointer (some ⟨b2,0,none⟩)),(3,.pointer (some ⟨b3,0,none⟩)),(4,.int .i64 ((i:Nat):Int))]∧Sat W w ([row 68 5 (.slice Ao (((hs.take i).map KL.n1)).length co) (((hs.take i).map KL.n1)).length ((((hs.take i).map KL.n1)).flatMap fX),a6 b3 (.cells #[.int .i64 self,.int .i64 next,.slice Ao ((hs.take i).map KL.n1).length co] 46),a6 b2 (.cells #[.int .i64 0,.int .i64 0,.slice none 0 0] 46),a6 b1 (.cells #[.int .i64 self,.int .i64 next,.slice ka hs.length kc] 24)])∧(i≤hs.length)∧(((hs.take i).map KL.n1).length=i)∧mm=hs.length-i) hs.length ?_ ?_
 ·replace I:=I.kp [1,2,3,4] rfl;exact⟨0,none,0,I,(B9 (O.aX 68 5)),(by omega),(by rfl),by omega⟩
 intro m a w hI;clear O I;obtain⟨i,Ao,co,I,O,hi,hil,rfl⟩:=hI;refine rC 4 I ?_;clear I a;refine u1 0 (aa rfl cJ) ?_;refine u1 0 (ld rfl) ?_;refine u1 0 (ak rfl fF) ?_;refine aK 0 0 (aq rfl rfl) ?_ ?_
 ·intro h14;refine uO 7 ?_;intro a I;refine bj [16,18] O (by kernel_rfl) ?_;replace O:=O.drew;refine P1 0 [] I rfl (fun w=>(aa (I.ev rfl) ij)) ?_;clear I a;refine cP 1 [] rfl (by exact⟨[],O⟩) (fun w hT=>have O:=hT.sat;(ld rfl)) ?_;refine bx 2 [] rfl (fun w=>(aa rfl cJ)) ?_;refine cP 3 [4] rfl (by exact⟨[],O⟩) (fun w hT=>have O:=hT.sat;(ld rfl)) ?_;obtain⟨ka_p,rfl⟩:∃q,ka=some q:=(hR.sat O).ao (by omega);obtain⟨x,hx⟩:∃zz_,hs[i]?=some zz_:=⟨_,List.getElem?_eq_getElem (by omega)⟩
  refine bx 5 [] rfl (fun w=>(ix rfl rfl fF lu)) ?_;refine bx 6 [] rfl (fun w=>(aw rfl jZ)) ?_;refine cP 7 [] rfl (by exact⟨[],O⟩) (fun w hT=>have O:=hT.sat;(aj rfl dE (bI (hR.sat O) (fo hx 0 _ rfl)))) ?_;refine bx 8 [] rfl (fun w=>(aa rfl cJ)) ?_;refine cP 9 [10] rfl (by exact⟨[],O⟩) (fun w hT=>have O:=hT.sat;(ld rfl)) ?_;refine bx 11 [] rfl (fun w=>(ix rfl rfl fF lu)) ?_;refine bx 12 [] rfl (fun w=>(aw rfl xX)) ?_;intro a I;refine X1 13 [] I rfl (by exact⟨[],O⟩) (fun w hT=>have O:=hT.sat;(ax (cs:=[.slice x.f.e.a x.f.e.es.length x.f.e.c,.slice x.f.p.va x.f.p.d.vec.length x.f.p.vc,.slice x.f.p.ca x.f.p.d.ab.length x.f.p.cc,.slice x.f.r.a x.f.r.rs.length x.f.r.c]) (I.ev rfl) x5 ke (fun j u e=>kV (hR.sat O) (fo hx _ u (Hq x j u e))))) ?_;clear I a;intro a I
  refine P1 14 [] I rfl (fun w=>(aM I rfl qp)) ?_;clear I a;intro a I;refine aD 15 (by kernel_rfl) ?_;refine vB (vss:=[[_,_,_,_,_]]) I rfl rfl rfl l8 zx rfl rfl rfl (by simp) rfl O ?_;clear I a O;intro A32 w O;intro a I;refine⟨.inr fun _=>(by exact⟨[_],O⟩),?_⟩;refine aD 16 (by kernel_rfl) ?_;refine eA I rfl rfl rfl rfl l8 zx rfl (O.p 1) (O.rd.src l8 (by simp[Value.oneCell'])) (by omega) (by omega) ?_;clear I a O;intro A33 c33 w hc33 O;intro a I;refine⟨.inl rfl,?_⟩;refine P1 17 [] I rfl (fun w=>(aa (I.ev rfl) ij)) ?_;clear I a;intro a I;refine aD 18 (by kernel_rfl) ?_;refine HF (cs':=[_,_,_]) I rfl rfl rfl z6 FO rfl (O.p 2) rfl rfl ?_;clear O;intro w O;refine⟨.inl rfl,?_⟩;refine ah (by kernel_rfl) ?_ _;refine rE 4 I ?_;clear I a;refine u1 2 (ad rfl rfl) ?_;intro a I
  replace I:=I.kp [1,2,3,4] rfl;have em:((hs.take (i+1)).map KL.n1)=((hs.take i).map KL.n1)++[x.n1]:=by rw[ay hx,List.map_append];rfl
  have el:((hs.take i).map KL.n1).length+1=((hs.take (i+1)).map KL.n1).length:=by rw[em];simp
  have hS2:=fW (O.p 1) el (cs':=((hs.take (i+1)).map KL.n1).flatMap fX) (by rw[em,List.flatMap_append];rfl);rw[el]at hS2;exact⟨hs.length-(i+1),by omega,i+1,_,_,I,B9 ((((hS2.p 4).p 4).p 3).p 3),by omega,by omega,rfl⟩
 ·intro h14;refine uO 10 ?_;refine u1 0 (lS (cs:=[_,_,_]) rfl) ?_;refine uW (vs:=[_,_,_]) (cs':=[_,_,_]) rfl rfl pY (O.p 2) ?_;clear O;intro w O;refine uO 2 ?_;intro a I;replace I:=I.kp [2] rfl;refine rC 1 I ?_;clear I a;intro a I;refine gN I rfl (de (cs:=[_,_,_]) I rfl Df pY (by exact O.aF (xs:=[_,_,_]) rfl)) ?_;have hie:i=hs.length:=by omega
  subst hie;rw[List.take_length]at O ⊢;exact⟨⟨self,next,Ao,co,hs.map KL.n1⟩,rfl,rfl,rfl,rfl,bY (O.p 1)⟩
theorem rF (W:World)(d:aT)(hp:d.ok W)(hs0:d.small):Calls Tryz.prog 21 #[.agg #[.int .i64 d.self,.int .i64 d.next,.slice d.a d.hs.length d.c]] W fun e w'=>∃g:DL,g.self=d.self∧g.next=d.next∧g.hs=d.hs.map KL.n2∧e=.returned (.agg #[.int .i64 g.self,.int .i64 g.next,.slice g.a g.hs.length g.c])∧Sat W w' [row 74 5 (.slice g.a (g.hs).length g.c) (g.hs).length ((g.hs).flatMap fX)]:=by
 refine bP Tryz.func21 [0] ?_;have O:=Sat.start W;obtain⟨self,next,ka,kc,hs⟩:=d;have hR:Rd W 9 (.slice ka hs.length kc) hs.length (hs.flatMap iQ):=hp.top;have hF:∀h∈hs,h.f.ok W:=hp.GZ;have hSo:∀h∈hs,h.s.ok W:=hp.Gp;have hl:hs.length≤1000000000:=hs0.len;have hFm:∀h∈hs,j0 h.f:=hs0.Ho;have hSm:∀h∈hs,j0 h.s:=hs0.HE;intro a I;dsimp only at I ⊢;refine rC 2 I ?_;clear I a;refine uB rfl O ?_;clear O;intro b1 w O;refine uN Dc O ?_;clear O;intro b2 w O;refine uO 4 ?_;refine u1 0 (aa rfl jT) ?_;refine u1 0 (ld rfl) ?_;refine u1 0 (aa rfl jP) ?_;refine u1 0 (ld rfl) ?_;intro a I;refine o1 0 I (aM I rfl Ey) ?_;clear I a;refine uN Dc O ?_;clear O;intro b3 w O;refine uW (vs:=[_,_,_]) (cs':=[_,_,_]) rfl rfl pN O ?_;clear O;intro w O;refine uO 9 ?_;intro a I
 refine wp_loop_ghost (fun (mm:Nat) a w=>∃(i:Nat) (Ao:Option Addr) (co:Nat),Ag a 36 [(1,.pointer (some ⟨b1,0,none⟩)),(2,.pointer (some ⟨b2,0,none⟩)),(3,.pointer (some ⟨b3,0,none⟩)),(4,.int .i64 ((i:Nat):Int))]∧Sat W w ([row 74 5 (.slice Ao (((hs.take i).map KL.n2)).length co) (((hs.take i).map KL.n2)).length ((((hs.take i).map KL.n2)).flatMap fX),a6 b3 (.cells #[.int .i64 self,.int .i64 next,.slice Ao ((hs.take i).map KL.n2).length co] 50),a6 b2 (.cells #[.int .i64 0,.int .i64 0,.slice none 0 0] 50),a6 b1 (.cells #[.int .i64 self,.int .i64 next,.slice ka hs.length kc] 24)])∧(i≤hs.length)∧(((hs.take i).map KL.n2).length=i)∧mm=hs.length-i) hs.length ?_ ?_
 ·replace I:=I.kp [1,2,3,4] rfl;exact⟨0,none,0,I,(B9 (O.aX 74 5)),(by omega),(by rfl),by omega⟩
 intro m a w hI;clear O I;obtain⟨i,Ao,co,I,O,hi,hil,rfl⟩:=hI;refine rC 4 I ?_;clear I a;refine u1 0 (aa rfl cJ) ?_;refine u1 0 (ld rfl) ?_;refine u1 0 (ak rfl fF) ?_;refine aK 0 0 (aq rfl rfl) ?_ ?_
 ·intro h14;refine uO 7 ?_;intro a I;refine bj [16,18] O (by kernel_rfl) ?_;replace O:=O.drew;refine P1 0 [] I rfl (fun w=>(aa (I.ev rfl) ig)) ?_;clear I a;refine cP 1 [] rfl (by exact⟨[],O⟩) (fun w hT=>have O:=hT.sat;(ld rfl)) ?_;refine bx 2 [] rfl (fun w=>(aa rfl cJ)) ?_;refine cP 3 [4] rfl (by exact⟨[],O⟩) (fun w hT=>have O:=hT.sat;(ld rfl)) ?_;obtain⟨ka_p,rfl⟩:∃q,ka=some q:=(hR.sat O).ao (by omega);obtain⟨x,hx⟩:∃zz_,hs[i]?=some zz_:=⟨_,List.getElem?_eq_getElem (by omega)⟩
  refine bx 5 [] rfl (fun w=>(ix rfl rfl fF lu)) ?_;refine bx 6 [] rfl (fun w=>(aw rfl jZ)) ?_;refine cP 7 [] rfl (by exact⟨[],O⟩) (fun w hT=>have O:=hT.sat;(aj rfl dE (bI (hR.sat O) (fo hx 0 _ rfl)))) ?_;refine bx 8 [] rfl (fun w=>(aa rfl cJ)) ?_;refine cP 9 [10] rfl (by exact⟨[],O⟩) (fun w hT=>have O:=hT.sat;(ld rfl)) ?_;refine bx 11 [] rfl (fun w=>(ix rfl rfl fF lu)) ?_;refine bx 12 [] rfl (fun w=>(aw rfl yl)) ?_;intro a I;refine X1 13 [] I rfl (by exact⟨[],O⟩) (fun w hT=>have O:=hT.sat;(ax (cs:=[.slice x.s.e.a x.s.e.es.length x.s.e.c,.slice x.s.p.va x.s.p.d.vec.length x.s.p.vc,.slice x.s.p.ca x.s.p.d.ab.length x.s.p.cc,.slice x.s.r.a x.s.r.rs.length x.s.r.c]) (I.ev rfl) x4 lv (fun j u e=>kV (hR.sat O) (fo hx _ u (HA x j u e))))) ?_;clear I a;intro a I
  refine P1 14 [] I rfl (fun w=>(aM I rfl qh)) ?_;clear I a;intro a I;refine aD 15 (by kernel_rfl) ?_;refine vB (vss:=[[_,_,_,_,_]]) I rfl rfl rfl lV zL rfl rfl rfl (by simp) rfl O ?_;clear I a O;intro A32 w O;intro a I;refine⟨.inr fun _=>(by exact⟨[_],O⟩),?_⟩;refine aD 16 (by kernel_rfl) ?_;refine eA I rfl rfl rfl rfl lV zL rfl (O.p 1) (O.rd.src lV (by simp[Value.oneCell'])) (by omega) (by omega) ?_;clear I a O;intro A33 c33 w hc33 O;intro a I;refine⟨.inl rfl,?_⟩;refine P1 17 [] I rfl (fun w=>(aa (I.ev rfl) ig)) ?_;clear I a;intro a I;refine aD 18 (by kernel_rfl) ?_;refine HF (cs':=[_,_,_]) I rfl rfl rfl Ay FX rfl (O.p 2) rfl rfl ?_;clear O;intro w O;refine⟨.inl rfl,?_⟩;refine ah (by kernel_rfl) ?_ _;refine rE 4 I ?_;clear I a;refine u1 2 (ad rfl rfl) ?_;intro a I
  replace I:=I.kp [1,2,3,4] rfl;have em:((hs.take (i+1)).map KL.n2)=((hs.take i).map KL.n2)++[x.n2]:=by rw[ay hx,List.map_append];rfl
  have el:((hs.take i).map KL.n2).length+1=((hs.take (i+1)).map KL.n2).length:=by rw[em];simp
  have hS2:=fW (O.p 1) el (cs':=((hs.take (i+1)).map KL.n2).flatMap fX) (by rw[em,List.flatMap_append];rfl);rw[el]at hS2;exact⟨hs.length-(i+1),by omega,i+1,_,_,I,B9 ((((hS2.p 4).p 4).p 3).p 3),by omega,by omega,rfl⟩
 ·intro h14;refine uO 10 ?_;refine u1 0 (lS (cs:=[_,_,_]) rfl) ?_;refine uW (vs:=[_,_,_]) (cs':=[_,_,_]) rfl rfl pN (O.p 2) ?_;clear O;intro w O;refine uO 2 ?_;intro a I;replace I:=I.kp [2] rfl;refine rC 1 I ?_;clear I a;intro a I;refine gN I rfl (de (cs:=[_,_,_]) I rfl CL pN (by exact O.aF (xs:=[_,_,_]) rfl)) ?_;have hie:i=hs.length:=by omega
  subst hie;rw[List.take_length]at O ⊢;exact⟨⟨self,next,Ao,co,hs.map KL.n2⟩,rfl,rfl,rfl,rfl,bY (O.p 1)⟩
def lz (h:NL):KL:=⟨h.ba,h.s,HN⟩
def lB (h:NL):KL:=⟨h.ba,HN,h.s⟩
theorem mL (W:World)(d:DL)(hp:d.ok W)(hs0:d.small):Calls Tryz.prog 38 #[.agg #[.int .i64 d.self,.int .i64 d.next,.slice d.a d.hs.length d.c]] W fun e w'=>∃g:aT,g.self=d.self∧g.next=d.next∧g.hs=d.hs.map lz∧e=.returned (.agg #[.int .i64 g.self,.int .i64 g.next,.slice g.a g.hs.length g.c])∧Sat W w' [row 72 9 (.slice g.a g.hs.length g.c) g.hs.length (g.hs.flatMap iQ)]:=by
 refine bP Tryz.func38 [0] ?_;have O:=Sat.start W;obtain⟨self,next,da,dc,hs⟩:=d;have hR:Rd W 5 (.slice da hs.length dc) hs.length (hs.flatMap fX):=hp.top;have hE:∀h∈hs,h.s.ok W:=hp.each;have hl:hs.length≤1000000000:=hs0.len;have hSm:∀h∈hs,j0 h.s:=hs0.each;intro a I;dsimp only at I ⊢;refine rC 2 I ?_;clear I a;refine uB rfl O ?_;clear O;intro b1 w O;refine uN sN O ?_;clear O;intro b2 w O;refine uO 4 ?_;refine u1 0 (aa rfl uH) ?_;refine u1 0 (ld rfl) ?_;refine u1 0 (aa rfl ub) ?_;refine u1 0 (ld rfl) ?_;intro a I;refine o1 0 I (aM I rfl mK) ?_;clear I a;refine uN sN O ?_;clear O;intro b3 w O;refine uW (vs:=[_,_,_]) (cs':=[_,_,_]) rfl rfl lr O ?_;clear O;intro w O;refine uO 9 ?_;intro a I
 refine wp_loop_ghost (fun (mm:Nat) a w=>∃(i:Nat) (Ao:Option Addr) (co:Nat),Ag a 36 [(1,.pointer (some ⟨b1,0,none⟩)),(2,.pointer (some ⟨b2,0,none⟩)),(3,.pointer (some ⟨b3,0,none⟩)),(4,.int .i64 ((i:Nat):Int))]∧Sat W w ([row 72 9 (.slice Ao ((hs.take i).map lz).length co) ((hs.take i).map lz).length (((hs.take i).map lz).flatMap iQ),a6 b3 (.cells #[.int .i64 self,.int .i64 next,.slice Ao ((hs.take i).map lz).length co] 24),a6 b2 (.cells #[.int .i64 0,.int .i64 0,.slice none 0 0] 24),a6 b1 (.cells #[.int .i64 self,.int .i64 next,.slice da hs.length dc] 46)])∧(i≤hs.length)∧(((hs.take i).map lz).length=i)∧mm=hs.length-i) hs.length ?_ ?_
 ·replace I:=I.kp [1,2,3,4] rfl;exact⟨0,none,0,I,(B9 (O.aX 72 9)),(by omega),(by rfl),by omega⟩
 intro m a w hI;clear O I;obtain⟨i,Ao,co,I,O,hi,hil,rfl⟩:=hI;refine rC 4 I ?_;clear I a;refine u1 0 (aa rfl ij) ?_;refine u1 0 (ld rfl) ?_;refine u1 0 (ak rfl l8) ?_;refine aK 0 0 (aq rfl rfl) ?_ ?_
 ·intro h14;refine uO 7 ?_;intro a I;refine bj [16,18] O (by kernel_rfl) ?_;replace O:=O.drew;refine P1 0 [] I rfl (fun w=>(aa (I.ev rfl) cJ)) ?_;clear I a;refine cP 1 [] rfl (by exact⟨[],O⟩) (fun w hT=>have O:=hT.sat;(ld rfl)) ?_;refine bx 2 [] rfl (fun w=>(aa rfl ij)) ?_;refine cP 3 [4] rfl (by exact⟨[],O⟩) (fun w hT=>have O:=hT.sat;(ld rfl)) ?_;obtain⟨da_p,rfl⟩:∃q,da=some q:=(hR.sat O).ao (by omega);obtain⟨x,hx⟩:∃zz_,hs[i]?=some zz_:=⟨_,List.getElem?_eq_getElem (by omega)⟩
  refine bx 5 [] rfl (fun w=>(ix rfl rfl l8 xJ)) ?_;refine bx 6 [] rfl (fun w=>(aw rfl rN)) ?_;refine cP 7 [] rfl (by exact⟨[],O⟩) (fun w hT=>have O:=hT.sat;(aj rfl dE (bI (hR.sat O) (l5 hx 0 _ rfl)))) ?_;refine bx 8 [] rfl (fun w=>(aa rfl ij)) ?_;refine cP 9 [10] rfl (by exact⟨[],O⟩) (fun w hT=>have O:=hT.sat;(ld rfl)) ?_;refine bx 11 [] rfl (fun w=>(ix rfl rfl l8 xJ)) ?_;refine bx 12 [] rfl (fun w=>(aw rfl Ea)) ?_;intro a I;refine X1 13 [] I rfl (by exact⟨[],O⟩) (fun w hT=>have O:=hT.sat;(ax (cs:=[.slice x.s.e.a x.s.e.es.length x.s.e.c,.slice x.s.p.va x.s.p.d.vec.length x.s.p.vc,.slice x.s.p.ca x.s.p.d.ab.length x.s.p.cc,.slice x.s.r.a x.s.r.rs.length x.s.r.c]) (I.ev rfl) x5 ke (fun j u e=>kV (hR.sat O) (l5 hx _ u (GB x j u e))))) ?_;clear I a;intro a I
  refine P1 14 [] I rfl (fun w=>(aM I rfl EL)) ?_;clear I a;intro a I;refine aD 15 (by kernel_rfl) ?_;refine vB (vss:=[[_,_,_,_,_,_,_,_,_]]) I rfl rfl rfl fF FG rfl rfl rfl (by simp) rfl O ?_;clear I a O;intro A32 w O;intro a I;refine⟨.inr fun _=>(by exact⟨[_],O⟩),?_⟩;refine aD 16 (by kernel_rfl) ?_;refine eA I rfl rfl rfl rfl fF FG rfl (O.p 1) (O.rd.src fF (by simp[Value.oneCell'])) (by omega) (by omega) ?_;clear I a O;intro A33 c33 w hc33 O;intro a I;refine⟨.inl rfl,?_⟩;refine P1 17 [] I rfl (fun w=>(aa (I.ev rfl) cJ)) ?_;clear I a;intro a I;refine aD 18 (by kernel_rfl) ?_;refine HF (cs':=[_,_,_]) I rfl rfl rfl I0 Jk rfl (O.p 2) rfl rfl ?_;clear O;intro w O;refine⟨.inl rfl,?_⟩;refine ah (by kernel_rfl) ?_ _;refine rE 4 I ?_;clear I a;refine u1 2 (ad rfl rfl) ?_;intro a I
  replace I:=I.kp [1,2,3,4] rfl;have em:((hs.take (i+1)).map lz)=((hs.take i).map lz)++[lz x]:=by rw[ay hx,List.map_append];rfl
  have el:((hs.take i).map lz).length+1=((hs.take (i+1)).map lz).length:=by rw[em];simp
  have hS2:=fW (O.p 1) el (cs':=((hs.take (i+1)).map lz).flatMap iQ) (by rw[em,List.flatMap_append];rfl);rw[el]at hS2;exact⟨hs.length-(i+1),by omega,i+1,_,_,I,B9 ((((hS2.p 4).p 4).p 3).p 3),by omega,by omega,rfl⟩
 ·intro h14;refine uO 10 ?_;refine u1 0 (lS (cs:=[_,_,_]) rfl) ?_;refine uW (vs:=[_,_,_]) (cs':=[_,_,_]) rfl rfl lr (O.p 2) ?_;clear O;intro w O;refine uO 2 ?_;intro a I;replace I:=I.kp [2] rfl;refine rC 1 I ?_;clear I a;intro a I;refine gN I rfl (de (cs:=[_,_,_]) I rfl CT lr (by exact O.aF (xs:=[_,_,_]) rfl)) ?_;have hie:i=hs.length:=by omega
  subst hie;rw[List.take_length]at O ⊢;exact⟨⟨self,next,Ao,co,hs.map lz⟩,rfl,rfl,rfl,rfl,bY (O.p 1)⟩
theorem nv (W:World)(d:DL)(hp:d.ok W)(hs0:d.small):Calls Tryz.prog 39 #[.agg #[.int .i64 d.self,.int .i64 d.next,.slice d.a d.hs.length d.c]] W fun e w'=>∃g:aT,g.self=d.self∧g.next=d.next∧g.hs=d.hs.map lB∧e=.returned (.agg #[.int .i64 g.self,.int .i64 g.next,.slice g.a g.hs.length g.c])∧Sat W w' [row 72 9 (.slice g.a g.hs.length g.c) g.hs.length (g.hs.flatMap iQ)]:=by
 refine bP Tryz.func39 [0] ?_;have O:=Sat.start W;obtain⟨self,next,da,dc,hs⟩:=d;have hR:Rd W 5 (.slice da hs.length dc) hs.length (hs.flatMap fX):=hp.top;have hE:∀h∈hs,h.s.ok W:=hp.each;have hl:hs.length≤1000000000:=hs0.len;have hSm:∀h∈hs,j0 h.s:=hs0.each;intro a I;dsimp only at I ⊢;refine rC 2 I ?_;clear I a;refine uB rfl O ?_;clear O;intro b1 w O;refine uN sN O ?_;clear O;intro b2 w O;refine uO 4 ?_;refine u1 0 (aa rfl ve) ?_;refine u1 0 (ld rfl) ?_;refine u1 0 (aa rfl vq) ?_;refine u1 0 (ld rfl) ?_;intro a I;refine o1 0 I (aM I rfl mK) ?_;clear I a;refine uN sN O ?_;clear O;intro b3 w O;refine uW (vs:=[_,_,_]) (cs':=[_,_,_]) rfl rfl lr O ?_;clear O;intro w O;refine uO 9 ?_;intro a I
 refine wp_loop_ghost (fun (mm:Nat) a w=>∃(i:Nat) (Ao:Option Addr) (co:Nat),Ag a 36 [(1,.pointer (some ⟨b1,0,none⟩)),(2,.pointer (some ⟨b2,0,none⟩)),(3,.pointer (some ⟨b3,0,none⟩)),(4,.int .i64 ((i:Nat):Int))]∧Sat W w ([row 72 9 (.slice Ao ((hs.take i).map lB).length co) ((hs.take i).map lB).length (((hs.take i).map lB).flatMap iQ),a6 b3 (.cells #[.int .i64 self,.int .i64 next,.slice Ao ((hs.take i).map lB).length co] 24),a6 b2 (.cells #[.int .i64 0,.int .i64 0,.slice none 0 0] 24),a6 b1 (.cells #[.int .i64 self,.int .i64 next,.slice da hs.length dc] 50)])∧(i≤hs.length)∧(((hs.take i).map lB).length=i)∧mm=hs.length-i) hs.length ?_ ?_
 ·replace I:=I.kp [1,2,3,4] rfl;exact⟨0,none,0,I,(B9 (O.aX 72 9)),(by omega),(by rfl),by omega⟩
 intro m a w hI;clear O I;obtain⟨i,Ao,co,I,O,hi,hil,rfl⟩:=hI;refine rC 4 I ?_;clear I a;refine u1 0 (aa rfl ig) ?_;refine u1 0 (ld rfl) ?_;refine u1 0 (ak rfl lV) ?_;refine aK 0 0 (aq rfl rfl) ?_ ?_
 ·intro h14;refine uO 7 ?_;intro a I;refine bj [16,18] O (by kernel_rfl) ?_;replace O:=O.drew;refine P1 0 [] I rfl (fun w=>(aa (I.ev rfl) cJ)) ?_;clear I a;refine cP 1 [] rfl (by exact⟨[],O⟩) (fun w hT=>have O:=hT.sat;(ld rfl)) ?_;refine bx 2 [] rfl (fun w=>(aa rfl ig)) ?_;refine cP 3 [4] rfl (by exact⟨[],O⟩) (fun w hT=>have O:=hT.sat;(ld rfl)) ?_;obtain⟨da_p,rfl⟩:∃q,da=some q:=(hR.sat O).ao (by omega);obtain⟨x,hx⟩:∃zz_,hs[i]?=some zz_:=⟨_,List.getElem?_eq_getElem (by omega)⟩
  refine bx 5 [] rfl (fun w=>(ix rfl rfl lV xT)) ?_;refine bx 6 [] rfl (fun w=>(aw rfl r7)) ?_;refine cP 7 [] rfl (by exact⟨[],O⟩) (fun w hT=>have O:=hT.sat;(aj rfl dE (bI (hR.sat O) (l5 hx 0 _ rfl)))) ?_;refine bx 8 [] rfl (fun w=>(aa rfl ig)) ?_;refine cP 9 [10] rfl (by exact⟨[],O⟩) (fun w hT=>have O:=hT.sat;(ld rfl)) ?_;refine bx 11 [] rfl (fun w=>(ix rfl rfl lV xT)) ?_;refine bx 12 [] rfl (fun w=>(aw rfl Er)) ?_;intro a I;refine X1 13 [] I rfl (by exact⟨[],O⟩) (fun w hT=>have O:=hT.sat;(ax (cs:=[.slice x.s.e.a x.s.e.es.length x.s.e.c,.slice x.s.p.va x.s.p.d.vec.length x.s.p.vc,.slice x.s.p.ca x.s.p.d.ab.length x.s.p.cc,.slice x.s.r.a x.s.r.rs.length x.s.r.c]) (I.ev rfl) x4 lv (fun j u e=>kV (hR.sat O) (l5 hx _ u (GB x j u e))))) ?_;clear I a;intro a I
  refine P1 14 [] I rfl (fun w=>(aM I rfl Ew)) ?_;clear I a;intro a I;refine aD 15 (by kernel_rfl) ?_;refine vB (vss:=[[_,_,_,_,_,_,_,_,_]]) I rfl rfl rfl fF FG rfl rfl rfl (by simp) rfl O ?_;clear I a O;intro A32 w O;intro a I;refine⟨.inr fun _=>(by exact⟨[_],O⟩),?_⟩;refine aD 16 (by kernel_rfl) ?_;refine eA I rfl rfl rfl rfl fF FG rfl (O.p 1) (O.rd.src fF (by simp[Value.oneCell'])) (by omega) (by omega) ?_;clear I a O;intro A33 c33 w hc33 O;intro a I;refine⟨.inl rfl,?_⟩;refine P1 17 [] I rfl (fun w=>(aa (I.ev rfl) cJ)) ?_;clear I a;intro a I;refine aD 18 (by kernel_rfl) ?_;refine HF (cs':=[_,_,_]) I rfl rfl rfl I0 Jk rfl (O.p 2) rfl rfl ?_;clear O;intro w O;refine⟨.inl rfl,?_⟩;refine ah (by kernel_rfl) ?_ _;refine rE 4 I ?_;clear I a;refine u1 2 (ad rfl rfl) ?_;intro a I
  replace I:=I.kp [1,2,3,4] rfl;have em:((hs.take (i+1)).map lB)=((hs.take i).map lB)++[lB x]:=by rw[ay hx,List.map_append];rfl
  have el:((hs.take i).map lB).length+1=((hs.take (i+1)).map lB).length:=by rw[em];simp
  have hS2:=fW (O.p 1) el (cs':=((hs.take (i+1)).map lB).flatMap iQ) (by rw[em,List.flatMap_append];rfl);rw[el]at hS2;exact⟨hs.length-(i+1),by omega,i+1,_,_,I,B9 ((((hS2.p 4).p 4).p 3).p 3),by omega,by omega,rfl⟩
 ·intro h14;refine uO 10 ?_;refine u1 0 (lS (cs:=[_,_,_]) rfl) ?_;refine uW (vs:=[_,_,_]) (cs':=[_,_,_]) rfl rfl lr (O.p 2) ?_;clear O;intro w O;refine uO 2 ?_;intro a I;replace I:=I.kp [2] rfl;refine rC 1 I ?_;clear I a;intro a I;refine gN I rfl (de (cs:=[_,_,_]) I rfl CT lr (by exact O.aF (xs:=[_,_,_]) rfl)) ?_;have hie:i=hs.length:=by omega
  subst hie;rw[List.take_length]at O ⊢;exact⟨⟨self,next,Ao,co,hs.map lB⟩,rfl,rfl,rfl,rfl,bY (O.p 1)⟩
theorem o8 (W:World)(d:aT)(hp:d.ok W)(hs0:d.small):Calls Tryz.prog 12 #[.int .i64 1,.agg #[.int .i64 d.self,.int .i64 d.next,.slice d.a d.hs.length d.c]] W fun e w'=>(iV aB d.d1=true∧∃A' c',e=.returned (.tuple #[.slice A' (bh 1 d.d1).length c',.int .i64 0])∧Sat W w' [row 5 1 (.slice A' (bh 1 d.d1).length c') (bh 1 d.d1).length ((bh 1 d.d1).map ai)])∨(iV aB d.d1=false∧e=.returned (.tuple #[.slice none 0 0,.int .i64 1])∧Sat W w' []):=by
 refine bP Tryz.func12 [0,1] ?_;have O:=Sat.start W;refine uC 2 ?_;refine uB rfl O ?_;clear O;intro b3 w O;refine uO 8 ?_;refine u1 5 (et (aY rfl rfl) (by omega)) ?_;refine u1 0 (lS (cs:=[_,_,_]) rfl) ?_;refine uF rfl (tj _ d (hp.sat O) hs0) ?_;rintro e w ⟨⟨gs,gn,ga,gc,gh⟩,e1,e2,e3,rfl,hT⟩;dsimp only at e1 e2 e3 hT ⊢;replace O:=O.au hT;clear hT;have hgd:DL.d ⟨gs,gn,ga,gc,gh⟩=d.d1:=(by show (⟨gs,gn,gh.map NL.d⟩:dB)=_;rw[e1,e2,e3,aT.d1]);have hgo:DL.ok w ⟨gs,gn,ga,gc,gh⟩:=⟨O.rd,fun h hh=>(by have hh:h∈gh:=hh;rw[e3]at hh;obtain⟨z,hz,rfl⟩:=List.mem_map.1 hh;exact (hp.GZ z hz).sat O)⟩;have hgm:DL.small ⟨gs,gn,ga,gc,gh⟩:=⟨(by show gh.length≤_;rw[e3,List.length_map];exact hs0.len),fun h hh=>(by have hh:h∈gh:=hh;rw[e3]at hh;obtain⟨z,hz,rfl⟩:=List.mem_map.1 hh;exact hs0.Ho z hz)⟩;refine uF rfl (Br _ (⟨gs,gn,ga,gc,gh⟩:DL) hgo hgm) ?_
 rintro e w (⟨h9,A9,c9,rfl,hT⟩ | ⟨h9,rfl,hT⟩)<;>rw[hgd]at *
 ·replace O:=O.au hT;clear hT;refine u1 0 (an rfl rfl) ?_;refine u1 6 (an rfl rfl) ?_;refine ft ?_;exact .inl ⟨h9,_,_,rfl,bY O⟩
 ·replace O:Sat _ _ _:=O.ag hT;clear hT;refine u1 0 (an rfl rfl) ?_;refine u1 6 (an rfl rfl) ?_;refine ft ?_;exact .inr ⟨h9,rfl,O.nil⟩
theorem pa (W:World)(d:aT)(hp:d.ok W)(hs0:d.small):Calls Tryz.prog 12 #[.int .i64 2,.agg #[.int .i64 d.self,.int .i64 d.next,.slice d.a d.hs.length d.c]] W fun e w'=>(iV bz d.d2=true∧∃A' c',e=.returned (.tuple #[.slice A' (bh 2 d.d2).length c',.int .i64 0])∧Sat W w' [row 5 1 (.slice A' (bh 2 d.d2).length c') (bh 2 d.d2).length ((bh 2 d.d2).map ai)])∨(iV bz d.d2=false∧e=.returned (.tuple #[.slice none 0 0,.int .i64 1])∧Sat W w' []):=by
 refine bP Tryz.func12 [0,1] ?_;have O:=Sat.start W;refine uC 2 ?_;refine uB rfl O ?_;clear O;intro b3 w O;refine uO 8 ?_;refine u1 7 (dY (aY rfl rfl) (by omega)) ?_;refine u1 0 (lS (cs:=[_,_,_]) rfl) ?_;refine uF rfl (rF _ d (hp.sat O) hs0) ?_;rintro e w ⟨⟨gs,gn,ga,gc,gh⟩,e1,e2,e3,rfl,hT⟩;dsimp only at e1 e2 e3 hT ⊢;replace O:=O.au hT;clear hT;have hgd:DL.d ⟨gs,gn,ga,gc,gh⟩=d.d2:=(by show (⟨gs,gn,gh.map NL.d⟩:dB)=_;rw[e1,e2,e3,aT.d2]);have hgo:DL.ok w ⟨gs,gn,ga,gc,gh⟩:=⟨O.rd,fun h hh=>(by have hh:h∈gh:=hh;rw[e3]at hh;obtain⟨z,hz,rfl⟩:=List.mem_map.1 hh;exact (hp.Gp z hz).sat O)⟩;have hgm:DL.small ⟨gs,gn,ga,gc,gh⟩:=⟨(by show gh.length≤_;rw[e3,List.length_map];exact hs0.len),fun h hh=>(by have hh:h∈gh:=hh;rw[e3]at hh;obtain⟨z,hz,rfl⟩:=List.mem_map.1 hh;exact hs0.HE z hz)⟩;refine uF rfl (AB _ (⟨gs,gn,ga,gc,gh⟩:DL) hgo hgm) ?_
 rintro e w (⟨h9,A9,c9,rfl,hT⟩ | ⟨h9,rfl,hT⟩)<;>rw[hgd]at *
 ·replace O:=O.au hT;clear hT;refine u1 0 (an rfl rfl) ?_;refine u1 5 (an rfl rfl) ?_;refine ft ?_;exact .inl ⟨h9,_,_,rfl,bY O⟩
 ·replace O:Sat _ _ _:=O.ag hT;clear hT;refine u1 0 (an rfl rfl) ?_;refine u1 5 (an rfl rfl) ?_;refine ft ?_;exact .inr ⟨h9,rfl,O.nil⟩
theorem Je (hs:List NL):(hs.map lz).map KL.n1=hs:=by rw[List.map_map];exact List.map_id hs
theorem Jg (hs:List NL):(hs.map lB).map KL.n2=hs:=by rw[List.map_map];exact List.map_id hs
theorem EX (w:World):(⟨0,0,none,0,[]⟩:DL).ok w:=⟨⟨none,0,rfl,Nat.le_refl _,rfl,.inl rfl⟩,fun h hh=>by cases hh⟩
theorem wz:(⟨0,0,none,0,[]⟩:DL).small:=⟨by show 0≤_;omega,fun h hh=>by cases hh⟩
theorem lT (W:World)(A:Option Addr)(c:Nat)(bs:List UInt8)(hb:bs.length≤16777216)(hR:Rd W 1 (.slice A bs.length c) bs.length (bs.map ai)):Calls Tryz.prog 15 #[.int .i64 1,.slice A (bs).length c] W fun e w'=>(∃d:aT,iV aB d.d1=true∧bs=bh 1 d.d1∧d.small∧(∀h∈d.hs,h.s=HN)∧e=.returned (.tuple #[.agg #[.int .i64 d.self,.int .i64 d.next,.slice d.a d.hs.length d.c],.int .i64 0])∧Sat W w' [row 72 9 (.slice d.a d.hs.length d.c) d.hs.length (d.hs.flatMap iQ),fe 216 3 219 206 (d.hs.map KL.n1)])∨(nD 1 aB bs∧∃d:aT,d.d1=⟨0,0,[]⟩∧d.hs=[]∧e=.returned (.tuple #[.agg #[.int .i64 d.self,.int .i64 d.next,.slice d.a d.hs.length d.c],.int .i64 8])∧Sat W w' [row 72 9 (.slice d.a d.hs.length d.c) d.hs.length (d.hs.flatMap iQ)]):=by
 refine bP Tryz.func15 [0,1] ?_;have O:=Sat.start W;refine uC 2 ?_;refine uN sN O ?_;clear O;intro b4 w O;refine uO 7 ?_;refine u1 6 (et (aY rfl rfl) (by omega)) ?_;refine uF rfl (AY _ A c bs hb (hR.sat O)) ?_;rintro e w (⟨⟨gs,gn,ga,gc,gh⟩,hok,hbs,hsm,rfl,hT⟩ | ⟨hno,rfl,hT⟩)
 ·dsimp only at hT ⊢;replace O:=O.au hT;clear hT;replace O:Sat _ _ (row 68 5 (.slice ga (gh).length gc) (gh).length ((gh).flatMap fX)::fe 216 3 219 206 gh::_):=O.open_;refine uO 1 ?_;refine u1 0 (an rfl rfl) ?_;refine u1 0 (an rfl rfl) ?_;refine uN CV O ?_;clear O;intro b6 w O;refine uW (vs:=[_,_,_]) (cs':=[_,_,_]) rfl rfl pY O ?_;clear O;intro w O;refine uO 5 ?_;refine u1 0 (lS (cs:=[_,_,_]) rfl) ?_;refine uF rfl (mL _ (⟨gs,gn,ga,gc,gh⟩:DL) ⟨(O.p 1).rd,im (O.p 2)⟩ hsm) ?_;rintro e w ⟨⟨ks,kn,ka,kc,kh⟩,e1,e2,e3,rfl,hT⟩;dsimp only at e1 e2 e3 hT ⊢;subst e1 e2 e3;replace O:=O.au hT;clear hT;refine uO 1 ?_;refine uW (vs:=[_,_,_]) (cs':=[_,_,_]) rfl rfl lr (O.p 4) ?_;clear O;intro w O;refine uO 5 ?_;intro a I
  refine eu I rfl (de (cs:=[_,_,_]) I rfl CT lr (by exact O.aF (xs:=[_,_,_]) rfl)) (dm I rfl) ?_;have hkd:aT.d1 ⟨ks,kn,ka,kc,gh.map lz⟩=DL.d ⟨ks,kn,ga,gc,gh⟩:=by show (⟨ks,kn,((gh.map lz).map KL.n1).map NL.d⟩:dB)=_;rw[Je];rfl
  refine .inl ⟨⟨ks,kn,ka,kc,gh.map lz⟩,by rw[hkd];exact hok,by rw[hkd];exact hbs,⟨by show (gh.map lz).length≤_;rw[List.length_map];exact hsm.len,?_,?_⟩,?_,rfl,?_⟩
  ·intro h hh;obtain⟨z,hz,rfl⟩:=List.mem_map.1 (show h∈gh.map lz from hh);exact hsm.each z hz
  ·intro h hh;obtain⟨z,hz,rfl⟩:=List.mem_map.1 (show h∈gh.map lz from hh);exact wg
  ·intro h hh;obtain⟨z,hz,rfl⟩:=List.mem_map.1 (show h∈gh.map lz from hh)
   rfl
  ·show Sat _ _ [_,fe _ _ _ _ ((gh.map lz).map KL.n1)];rw[Je];exact oW ((O.p 4).p 2)
 ·replace O:Sat _ _ _:=O.ag hT;clear hT;refine uO 1 ?_;refine u1 0 (an rfl rfl) ?_;refine u1 0 (an rfl rfl) ?_;refine uN CV O ?_;clear O;intro b6 w O;refine uW (vs:=[_,_,_]) (cs':=[_,_,_]) rfl rfl pY O ?_;clear O;intro w O;refine uO 5 ?_;refine u1 0 (lS (cs:=[_,_,_]) rfl) ?_;refine uF rfl (mL _ (⟨0,0,none,0,[]⟩:DL) (EX _) wz) ?_;rintro e w ⟨⟨ks,kn,ka,kc,kh⟩,e1,e2,e3,rfl,hT⟩;dsimp only at e1 e2 e3 hT ⊢;subst e1 e2 e3;replace O:=O.au hT;clear hT;refine uO 1 ?_;refine uW (vs:=[_,_,_]) (cs':=[_,_,_]) rfl rfl lr (O.p 2) ?_;clear O;intro w O;refine uO 5 ?_;intro a I;refine eu I rfl (de (cs:=[_,_,_]) I rfl CT lr (by exact O.aF (xs:=[_,_,_]) rfl)) (dm I rfl) ?_;exact .inr ⟨hno,⟨0,0,ka,kc,[]⟩,rfl,rfl,rfl,bY (O.p 1)⟩
theorem l6 (W:World)(A:Option Addr)(c:Nat)(bs:List UInt8)(hb:bs.length≤16777216)(hR:Rd W 1 (.slice A bs.length c) bs.length (bs.map ai)):Calls Tryz.prog 15 #[.int .i64 2,.slice A (bs).length c] W fun e w'=>(∃d:aT,iV bz d.d2=true∧bs=bh 2 d.d2∧d.small∧(∀h∈d.hs,h.f=HN)∧e=.returned (.tuple #[.agg #[.int .i64 d.self,.int .i64 d.next,.slice d.a d.hs.length d.c],.int .i64 0])∧Sat W w' [row 72 9 (.slice d.a d.hs.length d.c) d.hs.length (d.hs.flatMap iQ),fe 216 3 219 206 (d.hs.map KL.n2)])∨(nD 2 bz bs∧∃d:aT,d.d2=⟨0,0,[]⟩∧d.hs=[]∧e=.returned (.tuple #[.agg #[.int .i64 d.self,.int .i64 d.next,.slice d.a d.hs.length d.c],.int .i64 8])∧Sat W w' [row 72 9 (.slice d.a d.hs.length d.c) d.hs.length (d.hs.flatMap iQ)]):=by
 refine bP Tryz.func15 [0,1] ?_;have O:=Sat.start W;refine uC 2 ?_;refine uN sN O ?_;clear O;intro b4 w O;refine uO 7 ?_;refine u1 8 (dY (aY rfl rfl) (by omega)) ?_;refine uF rfl (Bo _ A c bs hb (hR.sat O)) ?_;rintro e w (⟨⟨gs,gn,ga,gc,gh⟩,hok,hbs,hsm,rfl,hT⟩ | ⟨hno,rfl,hT⟩)
 ·dsimp only at hT ⊢;replace O:=O.au hT;clear hT;replace O:Sat _ _ (row 74 5 (.slice ga (gh).length gc) (gh).length ((gh).flatMap fX)::fe 216 3 219 206 gh::_):=O.open_;refine uO 1 ?_;refine u1 0 (an rfl rfl) ?_;refine u1 0 (an rfl rfl) ?_;refine uN Dc O ?_;clear O;intro b8 w O;refine uW (vs:=[_,_,_]) (cs':=[_,_,_]) rfl rfl pN O ?_;clear O;intro w O;refine uO 5 ?_;refine u1 0 (lS (cs:=[_,_,_]) rfl) ?_;refine uF rfl (nv _ (⟨gs,gn,ga,gc,gh⟩:DL) ⟨(O.p 1).rd,im (O.p 2)⟩ hsm) ?_;rintro e w ⟨⟨ks,kn,ka,kc,kh⟩,e1,e2,e3,rfl,hT⟩;dsimp only at e1 e2 e3 hT ⊢;subst e1 e2 e3;replace O:=O.au hT;clear hT;refine uO 1 ?_;refine uW (vs:=[_,_,_]) (cs':=[_,_,_]) rfl rfl lr (O.p 4) ?_;clear O;intro w O;refine uO 4 ?_;intro a I
  refine eu I rfl (de (cs:=[_,_,_]) I rfl CT lr (by exact O.aF (xs:=[_,_,_]) rfl)) (dm I rfl) ?_;have hkd:aT.d2 ⟨ks,kn,ka,kc,gh.map lB⟩=DL.d ⟨ks,kn,ga,gc,gh⟩:=by show (⟨ks,kn,((gh.map lB).map KL.n2).map NL.d⟩:dB)=_;rw[Jg];rfl
  refine .inl ⟨⟨ks,kn,ka,kc,gh.map lB⟩,by rw[hkd];exact hok,by rw[hkd];exact hbs,⟨by show (gh.map lB).length≤_;rw[List.length_map];exact hsm.len,?_,?_⟩,?_,rfl,?_⟩
  ·intro h hh;obtain⟨z,hz,rfl⟩:=List.mem_map.1 (show h∈gh.map lB from hh);exact wg
  ·intro h hh;obtain⟨z,hz,rfl⟩:=List.mem_map.1 (show h∈gh.map lB from hh);exact hsm.each z hz
  ·intro h hh;obtain⟨z,hz,rfl⟩:=List.mem_map.1 (show h∈gh.map lB from hh)
   rfl
  ·show Sat _ _ [_,fe _ _ _ _ ((gh.map lB).map KL.n2)];rw[Jg];exact oW ((O.p 4).p 2)
 ·replace O:Sat _ _ _:=O.ag hT;clear hT;refine uO 1 ?_;refine u1 0 (an rfl rfl) ?_;refine u1 0 (an rfl rfl) ?_;refine uN Dc O ?_;clear O;intro b8 w O;refine uW (vs:=[_,_,_]) (cs':=[_,_,_]) rfl rfl pN O ?_;clear O;intro w O;refine uO 5 ?_;refine u1 0 (lS (cs:=[_,_,_]) rfl) ?_;refine uF rfl (nv _ (⟨0,0,none,0,[]⟩:DL) (EX _) wz) ?_;rintro e w ⟨⟨ks,kn,ka,kc,kh⟩,e1,e2,e3,rfl,hT⟩;dsimp only at e1 e2 e3 hT ⊢;subst e1 e2 e3;replace O:=O.au hT;clear hT;refine uO 1 ?_;refine uW (vs:=[_,_,_]) (cs':=[_,_,_]) rfl rfl lr (O.p 2) ?_;clear O;intro w O;refine uO 4 ?_;intro a I;refine eu I rfl (de (cs:=[_,_,_]) I rfl CT lr (by exact O.aF (xs:=[_,_,_]) rfl)) (dm I rfl) ?_;exact .inr ⟨hno,⟨0,0,ka,kc,[]⟩,rfl,rfl,rfl,bY (O.p 1)⟩
theorem GM (w:World):(⟨0,0,none,0,[]⟩:aT).ok w:=⟨⟨none,0,rfl,Nat.le_refl _,rfl,.inl rfl⟩,fun h hh=>(by cases hh),fun h hh=>(by cases hh)⟩
theorem y6:(⟨0,0,none,0,[]⟩:aT).small:=⟨by show 0≤_;omega,fun h hh=>(by cases hh),fun h hh=>(by cases hh)⟩
theorem mj (W:World)(d:aT)(hp:d.ok W)(hs0:d.small):Calls Tryz.prog 17 #[.int .i64 1,.agg #[.int .i64 d.self,.int .i64 d.next,.slice d.a d.hs.length d.c]] W fun e w'=>e=.returned (.bool (iV aB d.d1))∧Sat W w' []:=by
 refine bP Tryz.func17 [0,1] ?_;have O:=Sat.start W;refine uC 2 ?_;refine uB rfl O ?_;clear O;intro b3 w O;refine uO 6 ?_;refine u1 0 (lS (cs:=[_,_,_]) rfl) ?_;refine uF rfl (vF _ d (hp.sat O) hs0) ?_;rintro e w (⟨h9,A9,c9,rfl,hT⟩ | ⟨h9,rfl,hT⟩)
 ·replace O:=O.au hT;clear hT;refine uO 1 ?_;refine u1 0 (an rfl rfl) ?_;refine u1 7 (an rfl rfl) ?_;refine u1 4 (aY rfl rfl) ?_;refine aS ?_;rw[h9];exact⟨rfl,O.nil⟩
 ·replace O:Sat _ _ _:=O.ag hT;clear hT;refine uO 1 ?_;refine u1 0 (an rfl rfl) ?_;refine u1 7 (an rfl rfl) ?_;refine u1 4 (aY rfl rfl) ?_;refine aS ?_;rw[h9];exact⟨rfl,O.nil⟩
theorem lG (W:World)(d:aT)(v:Int)(hp:d.ok W)(hs0:d.small):Calls Tryz.prog 18 #[.int .i64 1,.agg #[.int .i64 d.self,.int .i64 d.next,.slice d.a d.hs.length d.c],.int .i64 v] W fun e w'=>e=.returned (.bool (decide (v=8∧d.d1=aT.d1 (⟨0,0,none,0,[]⟩:aT))))∧Sat W w' []:=by
 refine bP Tryz.func18 [0,1,2] ?_;have O:=Sat.start W;refine uC 2 ?_;refine uB rfl O ?_;clear O;intro b4 w O;refine uO 6 ?_;refine aK 0 0 (aY rfl rfl) ?_ ?_
 ·intro h8;refine uO 2 ?_;refine u1 0 (lS (cs:=[_,_,_]) rfl) ?_;intro a I;refine o1 0 I (aM I rfl Gy) ?_;clear I a;refine jR rfl (j1 _ d (⟨0,0,none,0,[]⟩:aT) (hp.sat O) hs0 (GM _) y6) ?_;rintro e w ⟨rfl,hT⟩;replace O:Sat _ _ _:=O.ag hT;clear hT;by_cases h13:d.d1=aT.d1 (⟨0,0,none,0,[]⟩:aT)
  ·rw[decide_eq_true h13];refine uO 5 ?_;refine aS ?_;rw[decide_eq_true (⟨by omega,h13⟩:_∧_)];exact⟨rfl,O.nil⟩
  ·rw[decide_eq_false h13];refine uO 5 ?_;refine aS ?_;rw[decide_eq_false fun (h:_∧_)=>h13 h.2];exact⟨rfl,O.nil⟩
 ·intro h8;refine uO 10 ?_;refine aS ?_;rw[decide_eq_false fun (h:_∧_)=>(by omega)];exact⟨rfl,O.nil⟩
theorem mx (W:World)(d:aT)(hp:d.ok W)(hs0:d.small):Calls Tryz.prog 17 #[.int .i64 2,.agg #[.int .i64 d.self,.int .i64 d.next,.slice d.a d.hs.length d.c]] W fun e w'=>e=.returned (.bool (iV bz d.d2))∧Sat W w' []:=by
 refine bP Tryz.func17 [0,1] ?_;have O:=Sat.start W;refine uC 2 ?_;refine uB rfl O ?_;clear O;intro b3 w O;refine uO 6 ?_;refine u1 0 (lS (cs:=[_,_,_]) rfl) ?_;refine uF rfl (vN _ d (hp.sat O) hs0) ?_;rintro e w (⟨h9,A9,c9,rfl,hT⟩ | ⟨h9,rfl,hT⟩)
 ·replace O:=O.au hT;clear hT;refine uO 1 ?_;refine u1 0 (an rfl rfl) ?_;refine u1 7 (an rfl rfl) ?_;refine u1 4 (aY rfl rfl) ?_;refine aS ?_;rw[h9];exact⟨rfl,O.nil⟩
 ·replace O:Sat _ _ _:=O.ag hT;clear hT;refine uO 1 ?_;refine u1 0 (an rfl rfl) ?_;refine u1 7 (an rfl rfl) ?_;refine u1 4 (aY rfl rfl) ?_;refine aS ?_;rw[h9];exact⟨rfl,O.nil⟩
theorem lD (W:World)(d:aT)(v:Int)(hp:d.ok W)(hs0:d.small):Calls Tryz.prog 18 #[.int .i64 2,.agg #[.int .i64 d.self,.int .i64 d.next,.slice d.a d.hs.length d.c],.int .i64 v] W fun e w'=>e=.returned (.bool (decide (v=8∧d.d2=aT.d2 (⟨0,0,none,0,[]⟩:aT))))∧Sat W w' []:=by
 refine bP Tryz.func18 [0,1,2] ?_;have O:=Sat.start W;refine uC 2 ?_;refine uB rfl O ?_;clear O;intro b4 w O;refine uO 6 ?_;refine aK 0 0 (aY rfl rfl) ?_ ?_
 ·intro h8;refine uO 2 ?_;refine u1 0 (lS (cs:=[_,_,_]) rfl) ?_;intro a I;refine o1 0 I (aM I rfl Gy) ?_;clear I a;refine jR rfl (j4 _ d (⟨0,0,none,0,[]⟩:aT) (hp.sat O) hs0 (GM _) y6) ?_;rintro e w ⟨rfl,hT⟩;replace O:Sat _ _ _:=O.ag hT;clear hT;by_cases h13:d.d2=aT.d2 (⟨0,0,none,0,[]⟩:aT)
  ·rw[decide_eq_true h13];refine uO 5 ?_;refine aS ?_;rw[decide_eq_true (⟨by omega,h13⟩:_∧_)];exact⟨rfl,O.nil⟩
  ·rw[decide_eq_false h13];refine uO 5 ?_;refine aS ?_;rw[decide_eq_false fun (h:_∧_)=>h13 h.2];exact⟨rfl,O.nil⟩
 ·intro h8;refine uO 10 ?_;refine aS ?_;rw[decide_eq_false fun (h:_∧_)=>(by omega)];exact⟨rfl,O.nil⟩
abbrev d12:dB:=⟨1,2,[]⟩
abbrev Kb:aT:=⟨1,2,none,0,[]⟩
abbrev vj:List UInt8:=[3,1,2,0,0,0,0,6,0,0,0,19]
theorem B6 (k:Nat):bh k d12=vj:=by
 unfold bh dn dv;show dg ((aE 3++(aE 1++(aE 2++aE 0)))++[])=vj;rw[fx (n:=3) (by decide),fx (n:=1) (by decide),fx (n:=2) (by decide),fx (n:=0) (by decide)];decide
theorem Fu (f:iW→Bool):iV f d12=true:=rfl
theorem GR {k:Nat}{f:iW→Bool}(hk:k≤2)(hf:∀d,f d=true→aB d=true){D:aT→dB}{P:aT→Prop}{Q:Prop}(h:(∃d:aT,iV f (D d)=true∧vj=bh k (D d)∧P d)∨(nD k f vj∧Q)):∃d:aT,D d=d12∧P d:=by
 rcases h with ⟨d,ho,hi,hp⟩ | ⟨hn,_⟩
 ·
  exact⟨d,Bx hk hf ho (Fu f) (by rw[←hi];decide) (by rw[←hi,B6]),hp⟩
 ·
  exact absurd (B6 k).symm (hn d12 (Fu f))
theorem xF (w:World):Kb.ok w:=⟨⟨none,0,rfl,Nat.le_refl _,rfl,.inl rfl⟩,fun h hh=>(by cases hh),fun h hh=>(by cases hh)⟩
theorem oO:Kb.small:=⟨by show 0≤_;omega,fun h hh=>(by cases hh),fun h hh=>(by cases hh)⟩
theorem vi (W:World)   : Calls Tryz.prog 10 #[] W fun e w'=>e=.returned (.bool true)∧Sat W w' []:=by
 refine bP Tryz.func10 [] ?_;have O:=Sat.start W;refine uC 7 ?_;intro a I;refine nF I rfl rfl aW j5 rfl rfl rfl (by simp[Value.oneCell']) O ?_;clear I a O;intro A7 w O;intro a I;change Sat W w (row 5 1 (.slice A7 (vj).length 12) (vj).length ((vj).map ai)::_) at O;refine rO 10 I ?_;clear I a;intro a I;refine wp_loop_rounds 3 ?_;refine a8 ?_;refine rC 4 I ?_;clear I a;refine u1 10 (et (dU rfl rfl) (by omega)) ?_;intro a I;refine o1 0 I (aM I rfl mK) ?_;clear I a;refine uF rfl (o8 _ (⟨1,2,none,0,[]⟩:aT) (xF _) oO) ?_
 rintro e w hq;obtain⟨A9,c9,he,hT⟩:∃A9 c9,e=.returned (.tuple #[.slice A9 vj.length c9,.int .i64 0])∧Sat _ w [row 5 1 (.slice A9 (vj).length c9) (vj).length ((vj).map ai)]:=(by rcases hq with ⟨_,h⟩ | ⟨h,_⟩;rw[show bh 1 (aT.d1 (⟨1,2,none,0,[]⟩:aT))=vj from B6 1]at h;exact h;exact absurd ((Fu aB).symm.trans h) (by decide));subst he;clear hq;replace O:=O.au hT;clear hT;refine uO 1 ?_;refine u1 0 (an rfl rfl) ?_;refine u1 8 (an rfl rfl) ?_;refine uF rfl (lT _ A7 12 vj (by decide) (O.p 1).rd) ?_;rintro e w hq;obtain⟨⟨ks,kn,ka,kc,kh⟩,hkd,hsm,hoz,rfl,hT⟩:=GR (k:=1) (f:=aB) (D:=aT.d1) (by decide) (fun d hd=>hd) hq;clear hq;dsimp only at hT hoz ⊢;replace O:Sat _ _ (_::_::_):=O.ag hT;clear hT;refine uO 1 ?_;refine u1 0 (an rfl rfl) ?_;refine u1 0 (an rfl rfl) ?_;refine uN sN O ?_;clear O;intro b5 w O
 refine uW (vs:=[_,_,_]) (cs':=[_,_,_]) rfl rfl lr O ?_;clear O;intro w O;refine uO 6 ?_;refine aK 0 0 (aG rfl rfl) ?_ ?_
 ·intro h25;intro a I;contradiction
 ·intro h25;refine uO 2 ?_;refine aK 0 0 (aG rfl rfl) ?_ ?_
  ·intro h28;intro a I;contradiction
  ·intro h28;refine uO 4 ?_;refine jR rfl (mP _ A9 c9 vj A7 12 vj (O.p 3).rd (O.p 4).rd (by decide)) ?_;rintro e w ⟨he,hT⟩;rw[decide_eq_true rfl]at he;subst he
   ·replace O:Sat _ _ _:=O.ag hT;clear hT;refine u1 3 (aI rfl) ?_;refine u1 0 (lS (cs:=[_,_,_]) rfl) ?_;intro a I;refine o1 0 I (aM I rfl mK) ?_;clear I a;refine jR rfl (j1 _ (⟨ks,kn,ka,kc,kh⟩:aT) (⟨1,2,none,0,[]⟩:aT) ⟨(O.p 1).rd,fun h hh=>im (O.p 2) h.n1 (List.mem_map.2 ⟨h,hh,rfl⟩),fun h hh=>by rw[hoz h hh];exact ye _⟩ hsm (xF _) oO) ?_;rintro e w ⟨he,hT⟩;rw[decide_eq_true (show aT.d1 ⟨ks,kn,ka,kc,kh⟩=aT.d1 (⟨1,2,none,0,[]⟩:aT) from hkd)]at he;subst he
    ·replace O:Sat _ _ _:=O.ag hT;clear hT;refine u1 9 (aI rfl) ?_;refine u1 2 (aH (ad rfl rfl) (show _=Value.int .i64 2 from rfl)) ?_;intro a I;refine a8 ?_;refine rC 4 I ?_;clear I a;refine u1 10 (et (dU rfl rfl) (by omega)) ?_;intro a I;refine o1 0 I (aM I rfl mK) ?_;clear I a;refine uF rfl (pa _ (⟨1,2,none,0,[]⟩:aT) (xF _) oO) ?_;rintro e w hq;obtain⟨A9,c9,he,hT⟩:∃A9 c9,e=.returned (.tuple #[.slice A9 vj.length c9,.int .i64 0])∧Sat _ w [row 5 1 (.slice A9 (vj).length c9) (vj).length ((vj).map ai)]:=(by rcases hq with ⟨_,h⟩ | ⟨h,_⟩;rw[show bh 2 (aT.d2 (⟨1,2,none,0,[]⟩:aT))=vj from B6 2]at h;exact h;exact absurd ((Fu bz).symm.trans h) (by decide));subst he;clear hq;replace O:=O.au hT;clear hT;refine uO 1 ?_;refine u1 0 (an rfl rfl) ?_;refine u1 8 (an rfl rfl) ?_
     refine uF rfl (l6 _ A7 12 vj (by decide) (O.p 5).rd) ?_;rintro e w hq;obtain⟨⟨ks,kn,ka,kc,kh⟩,hkd,hsm,hoz,rfl,hT⟩:=GR (k:=2) (f:=bz) (D:=aT.d2) (by decide) (fun d hd=>dZ hd) hq;clear hq;dsimp only at hT hoz ⊢;replace O:Sat _ _ (_::_::_):=O.ag hT;clear hT;refine uO 1 ?_;refine u1 0 (an rfl rfl) ?_;refine u1 0 (an rfl rfl) ?_;refine uN sN O ?_;clear O;intro b5 w O;refine uW (vs:=[_,_,_]) (cs':=[_,_,_]) rfl rfl lr O ?_;clear O;intro w O;refine uO 6 ?_;refine aK 0 0 (aG rfl rfl) ?_ ?_
     ·intro h25;intro a I;contradiction
     ·intro h25;refine uO 2 ?_;refine aK 0 0 (aG rfl rfl) ?_ ?_
      ·intro h28;intro a I;contradiction
      ·intro h28;refine uO 4 ?_;refine jR rfl (mP _ A9 c9 vj A7 12 vj (O.p 3).rd (O.p 8).rd (by decide)) ?_;rintro e w ⟨he,hT⟩;rw[decide_eq_true rfl]at he;subst he
       ·replace O:Sat _ _ _:=O.ag hT;clear hT;refine u1 3 (aI rfl) ?_;refine u1 0 (lS (cs:=[_,_,_]) rfl) ?_;intro a I;refine o1 0 I (aM I rfl mK) ?_;clear I a;refine jR rfl (j4 _ (⟨ks,kn,ka,kc,kh⟩:aT) (⟨1,2,none,0,[]⟩:aT) ⟨(O.p 1).rd,fun h hh=>(by rw[hoz h hh];exact ye _),fun h hh=>im (O.p 2) h.n2 (List.mem_map.2 ⟨h,hh,rfl⟩)⟩ hsm (xF _) oO) ?_;rintro e w ⟨he,hT⟩;rw[decide_eq_true (show aT.d2 ⟨ks,kn,ka,kc,kh⟩=aT.d2 (⟨1,2,none,0,[]⟩:aT) from hkd)]at he;subst he
        ·replace O:Sat _ _ _:=O.ag hT;clear hT;refine u1 9 (aI rfl) ?_;refine u1 2 (aH (ad rfl rfl) (show _=Value.int .i64 3 from rfl)) ?_;intro a I;refine a8 ?_;refine rC 4 I ?_;clear I a;refine u1 8 (dY (dU rfl rfl) (by omega)) ?_;intro a I;replace I:=I.kp [0] rfl;refine rC 6 I ?_;clear I a;refine aS ?_;exact⟨rfl,O.nil⟩
theorem DE {k:Nat}{f:iW→Bool}(hk:k≤2)(hf:∀d,f d=true→aB d=true){D:aT→dB}{P:aT→Prop}{Q:Prop}{bs:List UInt8}{d0:dB}(ho:iV f d0=true)(hi:bs=bh k d0)(hl:bs.length≤16777216)(h:(∃d:aT,iV f (D d)=true∧bs=bh k (D d)∧P d)∨(nD k f bs∧Q)):∃d:aT,D d=d0∧P d:=by
 rcases h with ⟨d,ho',hi',hp⟩ | ⟨hn,_⟩
 ·
  exact⟨d,Bx hk hf ho' ho (by rw[←hi'];omega) (by rw[←hi',←hi]),hp⟩
 ·
  exact absurd hi (hn d0 ho)
theorem uZ {k:Nat}{f:iW→Bool}{D:aT→dB}{P:aT→Prop}{Q:Prop}{bs:List UInt8}(hn:nD k f bs)(h:(∃d:aT,iV f (D d)=true∧bs=bh k (D d)∧P d)∨(nD k f bs∧Q)):Q:=by
 rcases h with ⟨d,ho,hi,_⟩ | ⟨_,q⟩
 ·
  exact absurd hi (hn _ ho)
 ·
  exact q
theorem nR {W w:World}{L:List As}{t:Nat}{s n:Int}{A:Option Addr}{c:Nat}{hs:List KL}(h0:hs=[])(O:Sat W w (row t 9 (.slice A hs.length c) hs.length (hs.flatMap iQ)::L)):aT.ok w ⟨s,n,A,c,hs⟩∧aT.small ⟨s,n,A,c,hs⟩:=by
 subst h0;exact⟨⟨O.rd,fun h hh=>(by cases hh),fun h hh=>(by cases hh)⟩,by show 0≤_;omega,fun h hh=>(by cases hh),fun h hh=>(by cases hh)⟩
end Go.Proofs.YtkjabaihpkbfhaaGreat.Wk
namespace Go.Proofs.YtkjabaihpkbfhaaGreat.K
open Go Go.RowKit
theorem sC {P:Program}{Q:Exit→Act→World→Prop}{a:Act}{w:World}{x y z u:Code}(J:Act→World→Prop)(h1:x.wp P (Exit.then (fun a w=>y.wp P (Exit.then (fun a w=>z.wp P (Exit.then J Q) a w) Q) a w) Q) a w)(h2:∀a w,J a w→u.wp P Q a w):(Code.seq x (Code.seq y (Code.seq z u))).wp P Q a w:=
 wp_seq (wp_mono h1 fun e a w q=>by
  cases e with
  | normal=>exact sw J q h2
  | exit id=>exact q
  | goto l=>exact q
  | ret=>exact q
  | panic c=>exact q
  | outgrown=>exact q)
end Go.Proofs.YtkjabaihpkbfhaaGreat.K
namespace Go.Proofs.YtkjabaihpkbfhaaGreat.Wk
open Go Go.RowKit Go.Proofs.YtkjabaihpkbfhaaGreat Go.Proofs.YtkjabaihpkbfhaaGreat.K Go.Proofs.YtkjabaihpkbfhaaGreat.T
theorem DG {α:Type}{l:List α}{i:Nat}{x:α}(h:l[i]?=some x):l.set i x=l:=by
 obtain⟨hi,rfl⟩:=List.getElem?_eq_some_iff.1 h;exact List.set_getElem_self hi
theorem zm {k:Nat}{f:iW→Bool}(hk:k≤2)(hf:∀d,f d=true→aB d=true){D:aT→dB}{P:aT→Prop}{Q:Prop}{d0:dB}{p:Nat}{ch xb:UInt8}(ho:iV f d0=true)(hx:(bh k d0)[p]?=some xb)(hl:(bh k d0).length≤16777216)
 (h:(∃d:aT,iV f (D d)=true∧(bh k d0).set p ch=bh k (D d)∧P d)∨(nD k f ((bh k d0).set p ch)∧Q)):(ch=xb∧∃d:aT,D d=d0∧P d)∨(ch≠xb∧Q):=by
 by_cases hc:ch=xb
 ·
  subst hc;exact .inl ⟨rfl,DE hk hf ho (DG hx) (by rw[List.length_set];exact hl) h⟩
 ·
  exact .inr ⟨hc,uZ (iR (Fi hx fun e=>hc e.symm)) h⟩
theorem tn {k:Nat}{f:iW→Bool}{d0:dB}{p:Nat}{x y:UInt8}(hx:(bh k d0)[p]?=some x)(hy:(bh k d0)[p+1]?=some y)(hc:¬(x.toNat:Int)=(y.toNat:Int))(hb:¬(p:Int)+1=((bh k d0).length:Int)-8):nD k f (((bh k d0).set p y).set (p+1) x):=
 iR (D0 hx hy (fun e=>hc (by rw[e])) (fun e=>hb (by unfold bh;rw[gK];omega)))
theorem uE (k:Nat)(d:dB):12≤(bh k d).length:=by
 have:=Bf k d;unfold bh;rw[gK];omega
end Go.Proofs.YtkjabaihpkbfhaaGreat.Wk
