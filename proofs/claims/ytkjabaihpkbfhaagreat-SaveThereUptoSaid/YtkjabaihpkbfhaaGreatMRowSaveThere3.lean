/- Texts of our own that a row leans on, put together. No condition of their own. -/
import Derived.Test.YtkjabaihpkbfhaaGreatMRowSaveThere2
set_option linter.unusedVariables false
set_option linter.unusedSimpArgs false
set_option maxRecDepth 100000
set_option maxHeartbeats 2000000
namespace Go.Proofs.YtkjabaihpkbfhaaGreat.Wk
open Go Go.RowKit Go.Proofs.YtkjabaihpkbfhaaGreat Go.Proofs.YtkjabaihpkbfhaaGreat.K Go.Proofs.YtkjabaihpkbfhaaGreat.T
theorem pY (W:World)(p q:PL)(hp:p.ok W)(hq:q.ok W)(hl1:p.d.vec.length≤1000000000000)(hl2:p.d.ab.length≤1000000000000)(hl3:q.d.vec.length≤1000000000000)(hl4:q.d.ab.length≤1000000000000):Calls Tryz.prog 106 #[.agg #[.slice p.va p.d.vec.length p.vc,.slice p.ca p.d.ab.length p.cc],.agg #[.slice q.va q.d.vec.length q.vc,.slice q.ca q.d.ab.length q.cc]] W fun e w'=>e=.returned (.bool (decide (p.d=q.d)))∧Sat W w' []:=by
 refine bP Tryz.func106 [0,1] ?_;have O:=Sat.start W;obtain⟨va,vc,ca,cc,d⟩:=p;have hpv:kb W va vc d.vec:=hp.vec;have hpc:gK W ca cc d.ab:=hp.ab;obtain⟨ua,uc,ea,ec,d2⟩:=q;have hqv:kb W ua uc d2.vec:=hq.vec;have hqc:gK W ea ec d2.ab:=hq.ab;intro a I;dsimp only at hl1 hl2 hl3 hl4 I ⊢;refine rC 2 I ?_;clear I a;refine uB rfl O ?_;clear O;intro b2 w O;refine uB rfl O ?_;clear O;intro b3 w O;refine uO 6 ?_;refine u1 0 (aa rfl cy) ?_;refine u1 0 (ld rfl) ?_;refine u1 0 (ak rfl aB) ?_;refine u1 0 (aa rfl cy) ?_;refine u1 0 (ld rfl) ?_;refine u1 0 (ak rfl aB) ?_;refine aM 0 0 (aD rfl rfl) ?_ ?_
 ·intro h13;refine uO 19 ?_;refine aU ?_;refine⟨?_,O.nil⟩;rw[decide_eq_false];intro h;rw[h]at h13;omega
 ·intro h13;refine uO 1 ?_;refine u1 0 (aa rfl bX) ?_;refine u1 0 (ld rfl) ?_;refine u1 0 (ak rfl dp) ?_;refine u1 0 (aa rfl bX) ?_;refine u1 0 (ld rfl) ?_;refine u1 0 (ak rfl dp) ?_;refine aM 0 0 (aD rfl rfl) ?_ ?_
  ·intro h21;refine uO 11 ?_;refine aU ?_;refine⟨?_,O.nil⟩;rw[decide_eq_false];intro h;rw[h]at h21;omega
  ·intro h21;refine uO 13 ?_;intro a I;refine wp_loop_ghost (fun (mm:Nat) a w=>∃(k:Nat),Ag a 59 [(2,.pointer (some ⟨b2,0,none⟩)),(3,.pointer (some ⟨b3,0,none⟩)),(5,.int .i64 ((k:Nat):Int))]∧Sat W w ([aV b3 (.cells #[.slice ua d2.vec.length uc,.slice ea d2.ab.length ec] 63),aV b2 (.cells #[.slice va d.vec.length vc,.slice ca d.ab.length cc] 63)])∧(k≤d.vec.length)∧(d.vec.take k=d2.vec.take k)∧mm=d.vec.length-k) d.vec.length ?_ ?_
   ·replace I:=I.kp [2,3,5] rfl;exact⟨0,I,O,(by omega),(by rfl),by omega⟩
   intro m a w hI;clear O I;obtain⟨k,I,O,hk,he,rfl⟩:=hI;refine rC 4 I ?_;clear I a;refine u1 0 (aa rfl cy) ?_;refine u1 0 (ld rfl) ?_;refine u1 0 (ak rfl aB) ?_;refine aM 0 0 (aq rfl rfl) ?_ ?_
   ·intro h27;refine uO 8 ?_;intro a I;refine cK (fun w'=>Sat _ w' _) (by kernel_rfl) (by kernel_rfl) O.drew ?_;refine Q1 0 I (fun w O=>(aa (I.ev rfl) cy)) ?_;clear I a;refine bp 1 (fun w O=>(ld rfl)) ?_;obtain⟨va_p,rfl⟩:∃q,va=some q:=(hpv.sat O).ao (by omega);obtain⟨x,hx⟩:∃zz_,d.vec[k]?=some zz_:=⟨_,List.getElem?_eq_getElem (by omega)⟩;refine bp 0 (fun w O=>(ix rfl rfl aB fS)) ?_;refine bp 0 (fun w O=>(an rfl dE (gb (hpv.sat O) (bu hx)))) ?_;refine bp 0 (fun w O=>(aa rfl cy)) ?_;refine bp 1 (fun w O=>(ld rfl)) ?_;obtain⟨ua_p,rfl⟩:∃q,ua=some q:=(hqv.sat O).ao (by omega);obtain⟨y,hy⟩:∃zz_,d2.vec[k]?=some zz_:=⟨_,List.getElem?_eq_getElem (by omega)⟩;refine bp 0 (fun w O=>(ix rfl rfl aB fS)) ?_;refine bp 0 (fun w O=>(an rfl dE (gb (hqv.sat O) (bu hy)))) ?_;intro a I
    refine K.sr I rfl rfl rfl (fun w O=>(aD (I.ev rfl) (I.ev rfl))) ?_ ?_
    ·clear I a;intro h40;intro a I;refine wpQuiet_nil ?_;clear O;intro w O;refine rE 13 I ?_;clear I a;refine aU ?_;refine⟨?_,O.nil⟩;rw[decide_eq_false];intro h;rw[h,hy]at hx;cases hx;omega
    ·clear I a;intro h40;intro a I;refine wpQuiet_nil ?_;clear O;intro w O;refine rE 7 I ?_;clear I a;refine u1 2 (ad rfl rfl) ?_;intro a I;replace I:=I.kp [2,3,5] rfl;refine⟨d.vec.length-(k+1),by omega,k+1,I,O,by omega,?_,rfl⟩;rw[aA hx,aA hy,he,show x=y from by omega]
   ·intro h27;refine uO 8 ?_;intro a I;replace I:=I.kp [2,3] rfl;refine rC 7 I ?_;clear I a;intro a I;refine wp_loop_ghost (fun (mm:Nat) a w=>∃(m:Nat),Ag a 59 [(2,.pointer (some ⟨b2,0,none⟩)),(3,.pointer (some ⟨b3,0,none⟩)),(6,.int .i64 ((m:Nat):Int))]∧Sat W w ([aV b3 (.cells #[.slice ua d2.vec.length uc,.slice ea d2.ab.length ec] 63),aV b2 (.cells #[.slice va d.vec.length vc,.slice ca d.ab.length cc] 63)])∧(m≤d.ab.length)∧(d.ab.take m=d2.ab.take m)∧mm=d.ab.length-m) d.ab.length ?_ ?_
    ·replace I:=I.kp [2,3,6] rfl;exact⟨0,I,O,(by omega),(by rfl),by omega⟩
    intro m a w hI;clear O I;obtain⟨m,I,O,hm,hf,rfl⟩:=hI;refine rC 4 I ?_;clear I a;refine u1 0 (aa rfl bX) ?_;refine u1 0 (ld rfl) ?_;refine u1 0 (ak rfl dp) ?_;refine aM 0 0 (aq rfl rfl) ?_ ?_
    ·intro h45;refine uO 8 ?_;intro a I;refine cK (fun w'=>Sat _ w' _) (by kernel_rfl) (by kernel_rfl) O.drew ?_;refine Q1 0 I (fun w O=>(aa (I.ev rfl) bX)) ?_;clear I a;refine bp 1 (fun w O=>(ld rfl)) ?_;obtain⟨ca_p,rfl⟩:∃q,ca=some q:=(hpc.sat O).ao (by omega);obtain⟨s,hs⟩:∃zz_,d.ab[m]?=some zz_:=⟨_,List.getElem?_eq_getElem (by omega)⟩;refine bp 0 (fun w O=>(ix rfl rfl dp cL)) ?_;refine bp 0 (fun w O=>(ax (cs:=gi s) rfl kg cL (fun j u e=>bI (hpc.sat O) (dB hs j u e)))) ?_;refine bp 0 (fun w O=>(aa rfl bX)) ?_;refine bp 1 (fun w O=>(ld rfl)) ?_;obtain⟨ea_p,rfl⟩:∃q,ea=some q:=(hqc.sat O).ao (by omega);obtain⟨t,ht⟩:∃zz_,d2.ab[m]?=some zz_:=⟨_,List.getElem?_eq_getElem (by omega)⟩
     refine bp 0 (fun w O=>(ix rfl rfl dp cL)) ?_;refine bp 0 (fun w O=>(ax (cs:=gi t) rfl kg cL (fun j u e=>bI (hqc.sat O) (dB ht j u e)))) ?_;intro a I;refine K.sr I rfl rfl rfl (fun w O=>(xE (I.ev rfl) (I.ev rfl) GM Gf)) ?_ ?_
     ·clear I a;intro h58;intro a I;refine wpQuiet_nil ?_;clear O;intro w O;refine rE 13 I ?_;clear I a;refine aU ?_;refine⟨?_,O.nil⟩;rw[decide_eq_false];intro h;rw[h,ht]at hs;cases hs;simp at h58
     ·clear I a;intro h58;intro a I;refine wpQuiet_nil ?_;clear O;intro w O;refine rE 7 I ?_;clear I a;refine u1 2 (ad rfl rfl) ?_;intro a I;replace I:=I.kp [2,3,6] rfl;refine⟨d.ab.length-(m+1),by omega,m+1,I,O,by omega,?_,rfl⟩;rw[aA hs,aA ht,hf,show s=t from by cases s;cases t;simpa using h58]
    ·intro h45;refine uO 14 ?_;refine aU ?_;rw[List.take_of_length_le (by omega),List.take_of_length_le (by omega)]at he hf;refine⟨?_,O.nil⟩;rw[decide_eq_true];exact uM he hf
theorem eY (W:World)(p:PL)(hp:p.ok W)(hlc:p.d.ab.length≤10000000000)(hlv:p.d.vec.length≤1000000000000):Calls Tryz.prog 180 #[.agg #[.slice p.va p.d.vec.length p.vc,.slice p.ca p.d.ab.length p.cc]] W fun e w'=>e=.returned (.bool (bL p.d))∧Sat W w' []:=by
 refine bP Tryz.func180 [0] ?_;have O:=Sat.start W;refine uC 2 ?_;refine uB rfl O ?_;clear O;intro b1 w O;refine uO 4 ?_;intro a I;refine bg [3] O (by kernel_rfl) ?_;replace O:=O.drew;refine X1 0 [] I rfl (by exact⟨[],O⟩) (fun w hT=>have O:=hT.sat;(ax (cs:=[_,_]) (I.ev rfl) fy bj (by exact O.aE (xs:=[_,_]) rfl))) ?_;clear I a;refine cW 1 [] rfl (by exact⟨[],O⟩) (fun w hT=>have O:=hT.sat;(lS (cs:=[_,_]) rfl)) ?_;intro a I;refine aG 2 (by kernel_rfl) ?_;refine eF I rfl rfl IC rfl (lL _ p (hp.sat O) hlc) ?_;clear I a;rintro e w ⟨q,rfl,hq,hT⟩;have hcn:=i6 p.d;rw[←hq]at hcn;have hcv:=hcn.len;have hcl:=jG p.d;rw[←hq]at hcl;replace O:Sat _ _ (_::_::_):=O.ag hT;clear hT;refine⟨_,rfl,?_⟩;intro a I;refine⟨.inr fun _=>(by exact⟨[_,_],O⟩),?_⟩;refine aG 3 (by kernel_rfl) ?_
 refine eF I rfl rfl Gx rfl (pY _ p q (hp.sat O) ⟨O.rd,(O.p 1).rd⟩ (by omega) (by omega) (by omega) (by omega)) ?_;clear I a;rintro e w ⟨rfl,hT⟩;replace O:Sat _ _ _:=O.ag hT;clear hT;refine⟨_,rfl,?_⟩;intro a I;refine⟨.inl rfl,?_⟩;refine rX [4] I ?_;clear I a;intro a I;refine ah (by kernel_rfl) ?_ _;refine rE 2 I ?_;clear I a;refine aU ?_;refine⟨?_,O.nil⟩
 congr 2
 unfold bL;rw[←hq,decide_eq_decide,eq_comm]
theorem zn (W:World)(p:PL)(hp:p.ok W)(hlc:p.d.ab.length≤10000000000):Calls Tryz.prog 280 #[.agg #[.slice p.va p.d.vec.length p.vc,.slice p.ca p.d.ab.length p.cc]] W fun e w'=>e=.returned (.int .i64 (B9 p.d))∧Sat W w' []:=by
 refine bP Tryz.func280 [0] ?_;have O:=Sat.start W;refine uC 2 ?_;refine uB rfl O ?_;clear O;intro b1 w O;refine uO 5 ?_;refine u1 0 (lS (cs:=[_,_]) rfl) ?_;refine uF rfl (oJ _ p (hp.sat O) hlc) ?_;rintro e w ⟨ls,rfl,hT1,hT⟩;replace O:=O.ar hT;clear hT;refine uN w3 O ?_;clear O;intro b3 w O;intro a I;refine FA (ls:=ls) (cs:=((List.replicate 16 (⟨none,0,[]⟩:Loc Int)).map Loc.v)) I rfl rfl qy hT1.1 (by simp) O ?_;clear O;intro w O;refine rO 14 I ?_;clear I a;intro a I;refine wp_loop_ghost (fun (mm:Nat) a w=>∃(r:Nat),Ag a 42 [(3,.pointer (some ⟨b3,0,none⟩)),(4,.int .i64 (((List.range r).map fun r=>cY (aO p.d r)).sum)),(5,.int .i64 ((r:Nat):Int))]∧Sat W w ([dA 377 b3 ls,br (ls.map (Loc.eI 3))])∧(r≤16)∧mm=16-r) 16 ?_ ?_
 ·replace I:=I.kp [3,4,5] rfl;exact⟨0,I,oW O,(by omega),by omega⟩
 intro m a w hI;clear O I;obtain⟨r,I,O,hr,rfl⟩:=hI;refine rC 4 I ?_;clear I a;refine aM 0 0 (aq rfl rfl) ?_ ?_
 ·intro h10;obtain⟨lA,lc,hl⟩:=hT1.get (show r<16 by omega);have hpl:=jI (aO p.d r);have hcr:=bx p.d r;have hs1:=s5 p.d r;intro a I
  have hnl:(aO p.d r).length≤100000000000:=by
   have:=cH (cO p.d r);have:=ed p.d r;unfold aO;omega
  refine rO 13 I ?_;clear I a;intro a I;refine wp_loop_ghost (fun (mm:Nat) a w=>∃(q:Nat),Ag a 42 [(3,.pointer (some ⟨b3,0,none⟩)),(4,.int .i64 (((List.range r).map fun r=>cY (aO p.d r)).sum+cY ((aO p.d r).take q))),(5,.int .i64 ((r:Nat):Int)),(6,.int .i64 (((2 * q):Nat):Int))]∧Sat W w ([dA 377 b3 ls,br (ls.map (Loc.eI 3))])∧(q≤(aO p.d r).length)∧mm=(aO p.d r).length-q) (aO p.d r).length ?_ ?_
  ·replace I:=I.kp [3,4,5,6] rfl;rw[show ((List.range r).map fun r=>cY (aO p.d r)).sum=((List.range r).map fun r=>cY (aO p.d r)).sum+cY ((aO p.d r).take 0) from by rw[List.take_zero];show _=_+0;omega]at I;exact⟨0,I,O,(by omega),by omega⟩
  intro m a w hI;clear O I;obtain⟨q,I,O,hq,rfl⟩:=hI;refine rC 4 I ?_;clear I a;refine u1 1 (ad rfl rfl) ?_;refine u1 0 (aa rfl ia) ?_;refine u1 0 (iA rfl rfl fz fU) ?_;refine u1 0 (an rfl iy (jx O hl)) ?_;refine u1 0 (ak rfl aB) ?_;refine aM 0 0 (aq rfl rfl) ?_ ?_
  ·intro h20;obtain⟨x,hx⟩:∃x,(aO p.d r)[q]?=some x:=⟨_,List.getElem?_eq_getElem (by omega)⟩;obtain⟨hx1,hx2⟩:=wM hx;have hxe:=hcr.each x (List.mem_of_getElem? hx);intro a I;rw[dH]at hxe;have hs2:=sv hcr q;obtain⟨lA_p,rfl⟩:∃q,lA=some q:=(show kb _ lA lc (bG (aO p.d r)) from kx O.qu hl).ao (by omega);refine rO 7 I ?_;clear I a;intro a I;refine cK (fun w'=>Sat _ w' _) (by kernel_rfl) (by kernel_rfl) O.drew ?_;refine rQ 2 I ?_;clear I a
   refine bp 0 (fun w O=>(aa rfl ia)) ?_;refine bp 0 (fun w O=>(iA rfl rfl fz fU)) ?_;refine bp 1 (fun w O=>(an rfl iy (jx O hl))) ?_;refine bp 0 (fun w O=>(ad rfl rfl)) ?_;refine bp 0 (fun w O=>(ix rfl rfl aB fS)) ?_;refine bp 1 (fun w O=>(an rfl dE (gb (kx O.qu hl) (bu hx2)))) ?_;refine bp 0 (fun w O=>(aa rfl ia)) ?_;refine bp 0 (fun w O=>(iA rfl rfl fz fU)) ?_;refine bp 1 (fun w O=>(an rfl iy (jx O hl))) ?_;refine bp 0 (fun w O=>(ix rfl rfl aB fS)) ?_;refine bp 0 (fun w O=>(an rfl dE (gb (kx O.qu hl) (bu hx1)))) ?_;refine bp 0 (fun w O=>(sb rfl rfl)) ?_;refine bp 1 (fun w O=>(ad rfl rfl)) ?_;intro a I;refine wpQuiet_nil ?_;clear O;intro w O;refine rE 4 I ?_;clear I a;refine u1 2 (ad rfl rfl) ?_;intro a I
   replace I:=I.kp [3,4,5,6] rfl;rw[show ((List.range r).map fun r=>cY (aO p.d r)).sum+cY ((aO p.d r).take q)+(x.2+1-x.1)=((List.range r).map fun r=>cY (aO p.d r)).sum+cY ((aO p.d r).take (q+1)) from by rw[CB (aO p.d) hx];omega]at I;exact⟨(aO p.d r).length-(q+1),by omega,q+1,I,O,by omega,rfl⟩
  ·intro h20;refine uO 11 ?_;refine u1 2 (ad rfl rfl) ?_;intro a I;replace I:=I.kp [3,4,5] rfl;have eg:(aO p.d r).take q=aO p.d r:=List.take_of_length_le (by omega);rw[eg,show aO p.d r=au (cO p.d r) from rfl,←rD]at I;exact⟨16-(r+1),by omega,r+1,I,O,by omega,rfl⟩
 ·intro h10;obtain rfl:r=16:=by omega
  refine uO 14 ?_;intro a I;replace I:=I.kp [2] rfl;refine rC 1 I ?_;clear I a;refine aU ?_;exact⟨rfl,O.nil⟩
theorem iW (W:World)(p:PL)(hp:p.ok W)(hlc:p.d.ab.length≤10000000000):Calls Tryz.prog 261 #[.agg #[.slice p.va p.d.vec.length p.vc,.slice p.ca p.d.ab.length p.cc]] W fun e w'=>e=.returned (.bool (eo p.d))∧Sat W w' []:=by
 refine bP Tryz.func261 [0] ?_;have O:=Sat.start W;refine uC 2 ?_;refine uB rfl O ?_;clear O;intro b1 w O;refine uO 5 ?_;refine u1 0 (lS (cs:=[_,_]) rfl) ?_;refine uF rfl (zn _ p (hp.sat O) hlc) ?_;rintro e w ⟨rfl,hT2⟩;replace O:Sat _ _ _:=O.ag hT2;clear hT2;refine u1 4 (aY rfl rfl) ?_;refine aU ?_;exact⟨rfl,O.nil⟩
theorem CO (W:World)(A:Option Addr)(c:Nat)(xs:List gk)(hR:GA W A c xs)(hl:xs.length≤10000000000):Calls Tryz.prog 270 #[.slice A (xs).length c] W fun e w'=>∃q:PL,e=.returned (.agg #[.slice q.va q.d.vec.length q.vc,.slice q.ca q.d.ab.length q.cc])∧q.d=lX xs∧Sat W w' [cN 3 q.va q.vc q.d.vec,bH 219 q.ca q.cc q.d.ab]:=by
 refine bP Tryz.func270 [0] ?_;have O:=Sat.start W;refine uC 2 ?_;refine uN dN O ?_;clear O;intro b2 w O;refine uO 4 ?_;refine uN dN O ?_;clear O;intro b3 w O;refine uO 9 ?_;intro a I;refine wp_loop_ghost (fun (mm:Nat) a w=>∃(i:Nat) (Ac:Option Addr) (cc:Nat),Ag a 34 [(0,.slice A (xs).length c),(2,.pointer (some ⟨b2,0,none⟩)),(3,.pointer (some ⟨b3,0,none⟩)),(4,.int .i64 ((i:Nat):Int))]∧Sat W w ([aV b3 (.cells #[.slice none 0 0,.slice Ac ((xs.take i).map fun d:gk=>(⟨d.rep,d.num,d.num⟩:aN)).length cc] 63),bH 219 Ac cc ((xs.take i).map fun d:gk=>(⟨d.rep,d.num,d.num⟩:aN)),aV b2 (.cells #[.slice none 0 0,.slice none 0 0] 63)])∧(i≤xs.length)∧mm=xs.length-i) xs.length ?_ ?_
 ·replace I:=I.kp [0,2,3,4] rfl;exact⟨0,none,0,I,((((O.aW 219 3).p 2).p 1).p 2),(by omega),by omega⟩
 intro m a w hI;clear O I;obtain⟨i,Ac,cc,I,O,hi,rfl⟩:=hI;refine rC 5 I ?_;clear I a;refine u1 0 (ak rfl og) ?_;refine aM 0 0 (aq rfl rfl) ?_ ?_
 ·intro h8;refine uO 7 ?_;intro a I;refine bg [19,21] O (by kernel_rfl) ?_;replace O:=O.drew;have hcl:((xs.take i).map fun d:gk=>(⟨d.rep,d.num,d.num⟩:aN)).length≤10000000000:=by rw[List.length_map,List.length_take];omega
  refine P1 0 [] I rfl (fun w=>(aa (I.ev rfl) bX)) ?_;clear I a;refine cW 1 [2,3] rfl (by exact⟨[],O⟩) (fun w hT=>have O:=hT.sat;(ld rfl)) ?_;obtain⟨A_p,rfl⟩:∃q,A=some q:=(hR.sat O).ao (by omega);obtain⟨x,hx⟩:∃zz_,xs[i]?=some zz_:=⟨_,List.getElem?_eq_getElem (by omega)⟩
  refine bA 4 [] rfl (fun w=>(ix rfl rfl og gN)) ?_;refine bA 5 [] rfl (fun w=>(aw rfl bw)) ?_;refine cW 6 [7,8] rfl (by exact⟨[],O⟩) (fun w hT=>have O:=hT.sat;(an rfl dE (bI (hR.sat O) (sU hx 0 _ rfl)))) ?_;refine bA 9 [] rfl (fun w=>(ix rfl rfl og gN)) ?_;refine bA 10 [] rfl (fun w=>(aw rfl bN)) ?_;refine cW 11 [12,13] rfl (by exact⟨[],O⟩) (fun w hT=>have O:=hT.sat;(an rfl dE (bI (hR.sat O) (sU hx 1 _ rfl)))) ?_;refine bA 14 [] rfl (fun w=>(ix rfl rfl og gN)) ?_;refine bA 15 [] rfl (fun w=>(aw rfl bN)) ?_;refine cW 16 [] rfl (by exact⟨[],O⟩) (fun w hT=>have O:=hT.sat;(an rfl dE (bI (hR.sat O) (sU hx 1 _ rfl)))) ?_;intro a I;refine P1 17 [] I rfl (fun w=>(aL I rfl jM)) ?_;clear I a;intro a I;refine aG 18 (by kernel_rfl) ?_
  refine vv (vss:=[[_,_,_]]) I rfl rfl rfl dp pa rfl rfl rfl (by simp) rfl O ?_;clear I a O;intro A29 w O;intro a I;refine⟨.inr fun _=>(by exact⟨[_],O⟩),?_⟩;refine aG 19 (by kernel_rfl) ?_;refine eA I rfl rfl rfl rfl dp pa rfl (O.p 2) (O.rd.src dp (by simp[Value.oneCell'])) (by omega) (by omega) ?_;clear I a O;intro A30 c30 w hc30 O;intro a I;refine⟨.inl rfl,?_⟩;refine P1 20 [] I rfl (fun w=>(aa (I.ev rfl) bX)) ?_;clear I a;intro a I;refine aG 21 (by kernel_rfl) ?_;refine Hr (cs':=[_,_]) I rfl rfl rfl xJ EU rfl (O.p 2) rfl rfl ?_;clear O;intro w O;refine⟨.inl rfl,?_⟩;refine ah (by kernel_rfl) ?_ _;refine rE 4 I ?_;clear I a;refine u1 2 (ad rfl rfl) ?_;intro a I;replace I:=I.kp [0,2,3,4] rfl
  have ec:((xs.take i).map fun d:gk=>(⟨d.rep,d.num,d.num⟩:aN))++[(⟨x.rep,x.num,x.num⟩:aN)]=((xs.take (i+1)).map fun d:gk=>(⟨d.rep,d.num,d.num⟩:aN)):=by rw[aA hx,List.map_append];rfl
  have el:((xs.take i).map fun d:gk=>(⟨d.rep,d.num,d.num⟩:aN)).length+1=((xs.take (i+1)).map fun d:gk=>(⟨d.rep,d.num,d.num⟩:aN)).length:=by rw[←ec,List.length_append];rfl
  have hS2:=gL (O.p 1) el (cs':=((xs.take (i+1)).map fun d:gk=>(⟨d.rep,d.num,d.num⟩:aN)).flatMap gi) (by rw[←ec,List.flatMap_append];simp[gi]);rw[el]at hS2;exact⟨xs.length-(i+1),by omega,i+1,_,_,I,(((hS2.p 3).p 1).p 2).de [_,_,_],by omega,rfl⟩
 ·intro h8;obtain rfl:i=xs.length:=by omega
  intro a I;rw[List.take_length]at O;refine rO 10 I ?_;clear I a;refine u1 0 (lS (cs:=[_,_]) rfl) ?_;refine uF rfl (lL _ ⟨none,0,Ac,cc,⟨[],xs.map fun d:gk=>(⟨d.rep,d.num,d.num⟩:aN)⟩⟩ ⟨(O.aW 3 1).rd,(O.p 1).rd⟩ (by simp;omega)) ?_;rintro e w ⟨q,rfl,hq,hT⟩;replace O:Sat _ _ (_::_::_):=O.ag hT;clear hT;refine uW (vs:=[_,_]) (cs':=[_,_]) rfl rfl bj (O.p 4) ?_;clear O;intro w O;refine uO 3 ?_;intro a I;refine gP I rfl (dj (cs:=[_,_]) I rfl fy bj (by exact O.aE (xs:=[_,_]) rfl)) ?_;exact⟨q,rfl,hq,oW ((O.p 2).p 2)⟩
def Jj (us vs:List Int)(i j:Nat)(x:Int):Prop:=(∀u,us[i]?=some u→x≤u)∧(∀v,vs[j]?=some v→x≤v)∧(us[i]?=some x∨vs[j]?=some x)
def Hy (us:List Int)(i i':Nat)(x:Int):Prop:=(us[i]?=some x∧i'=i+1)∨((∀u,us[i]?=some u→x<u)∧i'=i)
theorem xD {us:List Int}{i:Nat}{u:Int}{p:Prop}(h:us.length≤i)(e:us[i]?=some u):p:=by rw[List.getElem?_eq_none h]at e;cases e
theorem IT {us vs:List Int}{i j:Nat}{u:Int}(hu:us[i]?=some u)(h:vs.length≤j∨∃v,vs[j]?=some v∧u<v):Jj us vs i j u:=by
 refine⟨fun z hz=>by rw[hu]at hz;cases hz;omega,fun z hz=>?_,.inl hu⟩;rcases h with h | ⟨v,hv,h⟩
 ·
  exact xD h hz
 ·
  rw[hv]at hz;cases hz;omega
theorem IL {us vs:List Int}{i j:Nat}{v:Int}(hv:vs[j]?=some v)(h:us.length≤i∨∃u,us[i]?=some u∧v≤u):Jj us vs i j v:=by
 refine⟨fun z hz=>?_,fun z hz=>by rw[hv]at hz;cases hz;omega,.inr hv⟩;rcases h with h | ⟨u,hu,h⟩
 ·
  exact xD h hz
 ·
  rw[hu]at hz;cases hz;omega
theorem Gw {us vs:List Int}{i j:Nat}{x u:Int}(ha:x≤u)(hu:us[i]?=some u)(h:¬u=x):Hy us i i x:=.inr ⟨fun z hz=>by rw[hu]at hz;cases hz;omega,rfl⟩
theorem EM {us:List Int}{i:Nat}{x:Int}(h:us.length≤i):Hy us i i x:=.inr ⟨fun z hz=>xD h hz,rfl⟩
theorem Dq {f:Bool→Bool→Bool}{us vs:List Int}{i j i' j':Nat}{x:Int}(ha:Jj us vs i j x)(hi:Hy us i i' x)(hj:Hy vs j j' x)(hil:i≤us.length)(hjl:j≤vs.length):i+j<i'+j'∧i'≤us.length∧j'≤vs.length∧
 comb f (us.drop i) (vs.drop j) (cA i) (cA j) (f (cA i) (cA j))=(if f (cA i') (cA j')=f (cA i) (cA j) then [] else [x])++comb f (us.drop i') (vs.drop j') (cA i') (cA j') (f (cA i') (cA j')):=by
 rcases hi with ⟨hu,rfl⟩ | ⟨hu,rfl⟩<;>rcases hj with ⟨hv,rfl⟩ | ⟨hv,rfl⟩
 ·
  have h1:=(List.getElem?_eq_some_iff.1 hu).1;have h2:=(List.getElem?_eq_some_iff.1 hv).1;exact⟨by omega,by omega,by omega,Iq hu hv⟩
 ·
  have h1:=(List.getElem?_eq_some_iff.1 hu).1;refine⟨by omega,by omega,by omega,JL hu ?_⟩
  by_cases h:vs.length≤j'
  ·
   exact .inl h
  ·
   have e:=List.getElem?_eq_getElem (show j'<vs.length by omega);exact .inr ⟨_,e,hv _ e⟩
 ·
  have h2:=(List.getElem?_eq_some_iff.1 hv).1;refine⟨by omega,by omega,by omega,Jx hv ?_⟩
  by_cases h:us.length≤i'
  ·
   exact .inl h
  ·
   have e:=List.getElem?_eq_getElem (show i'<us.length by omega);exact .inr ⟨_,e,hu _ e⟩
 ·
  rcases ha.2.2 with h | h
  ·
   have:=hu _ h;omega
  ·
   have:=hv _ h;omega
theorem vD (W:World)(A:Option Addr)(c:Nat)(us:List Int)(B:Option Addr)(d:Nat)(vs:List Int)(rule:Int)(hX:kb W A c us)(hY:kb W B d vs)(hlx:us.length≤1000000000000)(hly:vs.length≤1000000000000):Calls Tryz.prog 290 #[.slice A (us).length c,.slice B (vs).length d,.int .i64 rule] W fun e w'=>∃A' c',e=.returned (.slice A' (comb (bY rule) us vs false false false).length c')∧Sat W w' [cN 3 A' c' (comb (bY rule) us vs false false false)]:=by
 refine bP Tryz.func290 [0,1,2] ?_;have O:=Sat.start W;refine uC 23 ?_;intro a I;refine wp_loop_ghost (fun (mm:Nat) a w=>∃(i j:Nat) (out:List Int) (Ao:Option Addr) (co:Nat),Ag a 116 [(0,.slice A (us).length c),(1,.slice B (vs).length d),(2,.int .i64 rule),(7,.slice Ao (out).length co),(8,.int .i64 ((i:Nat):Int)),(9,.int .i64 ((j:Nat):Int)),(10,.bool (bY rule (cA i) (cA j)))]∧Sat W w ([cN 3 Ao co out])∧(i≤us.length)∧(j≤vs.length)∧(out.length≤i+j)∧(out++comb (bY rule) (us.drop i) (vs.drop j) (cA i) (cA j) (bY rule (cA i) (cA j))=comb (bY rule) us vs false false false)∧mm=us.length+vs.length-(i+j)) (us.length+vs.length) ?_ ?_
 ·replace I:=I.kp [0,1,2,7,8,9,10] rfl;rw[show Value.bool false=.bool (bY rule (cA 0) (cA 0)) from by rw[show cA 0=false from rfl,u6]]at I;exact⟨0,0,[],none,0,I,(O.aW 3 1),(by omega),(by omega),(by simp),(by rw[show cA 0=false from rfl,u6];rfl),by omega⟩
 intro m a w hI;clear O I;obtain⟨i,j,out,Ao,co,I,O,hi,hj,hol,ho,rfl⟩:=hI;refine cf (fun a w=>Ag a 116 [(0,.slice A (us).length c),(1,.slice B (vs).length d),(2,.int .i64 rule),(7,.slice Ao (out).length co),(8,.int .i64 ((i:Nat):Int)),(9,.int .i64 ((j:Nat):Int)),(10,.bool (bY rule (cA i) (cA j)))]∧Sat W w ([cN 3 Ao co out])∧(i<us.length∨j<vs.length)) ?_ ?_
 ·refine rC 4 I ?_;clear I a;refine u1 0 (ak rfl aB) ?_;refine aM 0 0 (aq rfl rfl) ?_ ?_
  ·intro h18;refine uO 10 ?_;intro a I;replace I:=I.kp [0,1,2,7,8,9,10] rfl
   first
    | exact⟨I,O,(by omega)⟩
  ·intro h18;refine uO 3 ?_;refine u1 0 (ak rfl aB) ?_;refine aM 0 0 (aq rfl rfl) ?_ ?_
   ·intro h23;refine uO 5 ?_;intro a I;replace I:=I.kp [0,1,2,7,8,9,10] rfl
    first
     | exact⟨I,O,(by omega)⟩
   ·intro h23;refine uO 9 ?_;intro a I;replace I:=I.kp [7] rfl;refine rC 7 I ?_;clear I a;refine aU ?_;rw[G6 (by omega) (by omega),List.append_nil]at ho;rw[←ho];exact⟨_,_,rfl,cu O⟩
 ·intro a w hI;clear O I;obtain⟨I,O,hlt⟩:=hI;refine rC 6 I ?_;clear I a;intro a I;refine cf (fun a w=>∃(at_:Int),Ag a 116 [(0,.slice A (us).length c),(1,.slice B (vs).length d),(2,.int .i64 rule),(7,.slice Ao (out).length co),(8,.int .i64 ((i:Nat):Int)),(9,.int .i64 ((j:Nat):Int)),(10,.bool (bY rule (cA i) (cA j))),(11,.int .i64 at_)]∧Sat W w ([cN 3 Ao co out])∧(Jj us vs i j at_)) ?_ ?_
  ·refine rC 1 I ?_;clear I a;intro a I;refine cK (fun w'=>Sat _ w' _) (by kernel_rfl) (by kernel_rfl) O.drew ?_;refine rQ 2 I ?_;clear I a;refine bp 0 (fun w O=>(ak rfl aB)) ?_;intro a I;refine K.sr I rfl rfl rfl (fun w O=>(aY (I.ev rfl) (I.ev rfl))) ?_ ?_
   ·clear I a;intro h28;refine uQ 17 ?_;intro a I;refine wpQuiet_nil ?_;clear O;intro w O;refine rE 5 I ?_;clear I a;obtain⟨A_p,rfl⟩:∃q,A=some q:=(hX.sat O).ao (by omega);obtain⟨u,hu⟩:∃zz_,us[i]?=some zz_:=⟨_,List.getElem?_eq_getElem (by omega)⟩;refine u1 0 (ix rfl rfl aB fS) ?_;refine u1 2 (an rfl dE (gb (hX.sat O) (bu hu))) ?_;intro a I;replace I:=I.kp [0,1,2,7,8,9,10,11] rfl;exact⟨u,I,O,IT hu (.inl (by omega))⟩
   ·clear I a;intro h28;refine uQ 3 ?_;refine bp 0 (fun w O=>(ak rfl aB)) ?_;intro a I;refine K.o0 I (aT I rfl rfl rfl) rfl rfl (fun w O=>(aq (I.ev rfl) (I.ev rfl))) ?_ ?_
    ·clear I a;intro h33;refine uQ 3 ?_;obtain⟨A_p,rfl⟩:∃q,A=some q:=(hX.sat O).ao (by omega);obtain⟨u,hu⟩:∃zz_,us[i]?=some zz_:=⟨_,List.getElem?_eq_getElem (by omega)⟩;refine bp 0 (fun w O=>(ix rfl rfl aB fS)) ?_;refine bp 2 (fun w O=>(an rfl dE (gb (hX.sat O) (bu hu)))) ?_;obtain⟨B_p,rfl⟩:∃q,B=some q:=(hY.sat O).ao (by omega);obtain⟨v,hv⟩:∃zz_,vs[j]?=some zz_:=⟨_,List.getElem?_eq_getElem (by omega)⟩;refine bp 0 (fun w O=>(ix rfl rfl aB fS)) ?_;refine bp 0 (fun w O=>(an rfl dE (gb (hY.sat O) (bu hv)))) ?_;intro a I;refine K.o0 I (aT I rfl rfl rfl) rfl rfl (fun w O=>(aq (I.ev rfl) (I.ev rfl))) ?_ ?_
     ·clear I a;intro h43;refine uQ 2 ?_;intro a I;refine wpQuiet_nil ?_;clear O;intro w O;refine rE 5 I ?_;clear I a;refine u1 0 (ix rfl rfl aB fS) ?_;refine u1 2 (an rfl dE (gb (hX.sat O) (bu hu))) ?_;intro a I;replace I:=I.kp [0,1,2,7,8,9,10,11] rfl;exact⟨u,I,O,IT hu (.inr ⟨v,hv,by omega⟩)⟩
     ·clear I a;intro h43;refine uQ 2 ?_;intro a I;refine wpQuiet_nil ?_;clear O;intro w O;refine rE 5 I ?_;clear I a;refine u1 0 (ix rfl rfl aB fS) ?_;refine u1 2 (an rfl dE (gb (hY.sat O) (bu hv))) ?_;intro a I;replace I:=I.kp [0,1,2,7,8,9,10,11] rfl;exact⟨v,I,O,IL hv (.inr ⟨u,hu,by omega⟩)⟩
    ·clear I a;intro h33;refine uQ 12 ?_;intro a I;refine wpQuiet_nil ?_;clear O;intro w O;refine rE 5 I ?_;clear I a;obtain⟨B_p,rfl⟩:∃q,B=some q:=(hY.sat O).ao (by omega);obtain⟨v,hv⟩:∃zz_,vs[j]?=some zz_:=⟨_,List.getElem?_eq_getElem (by omega)⟩;refine u1 0 (ix rfl rfl aB fS) ?_;refine u1 2 (an rfl dE (gb (hY.sat O) (bu hv))) ?_;intro a I;replace I:=I.kp [0,1,2,7,8,9,10,11] rfl;exact⟨v,I,O,IL hv (.inl (by omega))⟩
  ·intro a w hI;clear O I;obtain⟨at_,I,O,hat⟩:=hI;refine cf (fun a w=>∃(i':Nat),Ag a 116 [(0,.slice A (us).length c),(1,.slice B (vs).length d),(2,.int .i64 rule),(7,.slice Ao (out).length co),(8,.int .i64 ((i':Nat):Int)),(9,.int .i64 ((j:Nat):Int)),(10,.bool (bY rule (cA i) (cA j))),(11,.int .i64 at_)]∧Sat W w ([cN 3 Ao co out])∧(Hy us i i' at_)) ?_ ?_
   ·refine rC 4 I ?_;clear I a;refine u1 0 (ak rfl aB) ?_;refine aM 0 0 (aq rfl rfl) ?_ ?_
    ·intro h57;refine uO 3 ?_;obtain⟨A_p,rfl⟩:∃q,A=some q:=(hX.sat O).ao (by omega);obtain⟨u,hu⟩:∃zz_,us[i]?=some zz_:=⟨_,List.getElem?_eq_getElem (by omega)⟩;refine u1 0 (ix rfl rfl aB fS) ?_;refine u1 1 (an rfl dE (gb (hX.sat O) (bu hu))) ?_;refine aM 0 0 (aY rfl rfl) ?_ ?_
     ·intro h64;refine uO 6 ?_;refine u1 2 (ad rfl rfl) ?_;intro a I;replace I:=I.kp [0,1,2,7,8,9,10,11] rfl;exact⟨i+1,I,O,.inl ⟨by rw[←h64];exact hu,rfl⟩⟩
     ·intro h64;refine uO 5 ?_;intro a I;replace I:=I.kp [0,1,2,7,8,9,10,11] rfl;exact⟨i,I,O,Gw (vs:=vs) (j:=j) (hat.1 u hu) hu h64⟩
    ·intro h57;refine uO 12 ?_;intro a I;replace I:=I.kp [0,1,2,7,8,9,10,11] rfl;exact⟨i,I,O,EM (by omega)⟩
   ·intro a w hI;clear O I;obtain⟨i',I,O,hmi⟩:=hI;refine cf (fun a w=>∃(j':Nat),Ag a 116 [(0,.slice A (us).length c),(1,.slice B (vs).length d),(2,.int .i64 rule),(7,.slice Ao (out).length co),(8,.int .i64 ((i':Nat):Int)),(9,.int .i64 ((j':Nat):Int)),(10,.bool (bY rule (cA i) (cA j))),(11,.int .i64 at_)]∧Sat W w ([cN 3 Ao co out])∧(Hy vs j j' at_)) ?_ ?_
    ·refine rC 4 I ?_;clear I a;refine u1 0 (ak rfl aB) ?_;refine aM 0 0 (aq rfl rfl) ?_ ?_
     ·intro h71;refine uO 3 ?_;obtain⟨B_p,rfl⟩:∃q,B=some q:=(hY.sat O).ao (by omega);obtain⟨v,hv⟩:∃zz_,vs[j]?=some zz_:=⟨_,List.getElem?_eq_getElem (by omega)⟩;refine u1 0 (ix rfl rfl aB fS) ?_;refine u1 1 (an rfl dE (gb (hY.sat O) (bu hv))) ?_;refine aM 0 0 (aY rfl rfl) ?_ ?_
      ·intro h78;refine uO 6 ?_;refine u1 2 (ad rfl rfl) ?_;intro a I;replace I:=I.kp [0,1,2,7,8,9,10,11] rfl;exact⟨j+1,I,O,.inl ⟨by rw[←h78];exact hv,rfl⟩⟩
      ·intro h78;refine uO 5 ?_;intro a I;replace I:=I.kp [0,1,2,7,8,9,10,11] rfl;exact⟨j,I,O,Gw (vs:=us) (j:=i) (hat.2.1 v hv) hv h78⟩
     ·intro h71;refine uO 12 ?_;intro a I;replace I:=I.kp [0,1,2,7,8,9,10,11] rfl;exact⟨j,I,O,EM (by omega)⟩
    ·intro a w hI;clear O I;obtain⟨j',I,O,hmj⟩:=hI;obtain⟨hm,hi2,hj2,hrel⟩:=Dq (f:=bY rule) hat hmi hmj hi hj;refine yk (fun a w=>Ag a 116 [(0,.slice A (us).length c),(1,.slice B (vs).length d),(2,.int .i64 rule),(7,.slice Ao (out).length co),(8,.int .i64 ((i':Nat):Int)),(9,.int .i64 ((j':Nat):Int)),(10,.bool (bY rule (cA i) (cA j))),(11,.int .i64 at_),(14,.bool (bY rule (cA i') (cA j')))]∧Sat W w ([cN 3 Ao co out])) ?_ ?_
     ·refine rC 2 I ?_;clear I a;refine u1 0 (hU rfl rfl (by omega) (by omega)) ?_;refine aM 0 0 (aY rfl rfl) ?_ ?_
      ·intro h84;refine uO 1 ?_;refine u1 0 (hU rfl rfl (by omega) (by omega)) ?_;refine aM 0 0 (aY rfl rfl) ?_ ?_
       ·intro h87;refine uO 3 ?_;refine uC 2 ?_;refine aM 0 0 (aY rfl rfl) ?_ ?_
        ·intro h89;refine uO 19 ?_;intro a I;replace I:=I.kp [0,1,2,7,8,9,10,11,14] rfl;have ho1:cA i'=true:=by unfold cA;rw[decide_eq_true (by omega)]
         have ho2:cA j'=true:=by unfold cA;rw[decide_eq_true (by omega)]
         have hnow:bY rule (cA i') (cA j')=true:=by rw[ho1,ho2];unfold bY;simp<;>omega
         rw[show Value.bool true=.bool (bY rule (cA i') (cA j')) from by rw[hnow]<;>rfl]at I;exact⟨I,O⟩
        ·intro h89;refine uO 8 ?_;refine aM 0 0 (aY rfl rfl) ?_ ?_
         ·intro h98;refine uO 5 ?_;refine u1 4 (aF rfl) ?_;intro a I;replace I:=I.kp [0,1,2,7,8,9,10,11,14] rfl;have ho1:cA i'=true:=by unfold cA;rw[decide_eq_true (by omega)]
          have ho2:cA j'=true:=by unfold cA;rw[decide_eq_true (by omega)]
          have hnow:bY rule (cA i') (cA j')=false:=by rw[ho1,ho2];unfold bY;simp<;>omega
          rw[show Value.bool (!true)=.bool (bY rule (cA i') (cA j')) from by rw[hnow]<;>rfl]at I;exact⟨I,O⟩
         ·intro h98;refine uO 10 ?_;intro a I;replace I:=I.kp [0,1,2,7,8,9,10,11,14] rfl;have ho1:cA i'=true:=by unfold cA;rw[decide_eq_true (by omega)]
          have ho2:cA j'=true:=by unfold cA;rw[decide_eq_true (by omega)]
          have hnow:bY rule (cA i') (cA j')=false:=by rw[ho1,ho2];unfold bY;simp<;>omega
          rw[show Value.bool false=.bool (bY rule (cA i') (cA j')) from by rw[hnow]<;>rfl]at I;exact⟨I,O⟩
       ·intro h87;refine uO 3 ?_;refine uC 2 ?_;refine aM 0 0 (aY rfl rfl) ?_ ?_
        ·intro h89;refine uO 8 ?_;refine aM 0 0 (aY rfl rfl) ?_ ?_
         ·intro h98;intro a I;exfalso;omega
         ·intro h98;refine uO 10 ?_;intro a I;replace I:=I.kp [0,1,2,7,8,9,10,11,14] rfl;have ho1:cA i'=true:=by unfold cA;rw[decide_eq_true (by omega)]
          have ho2:cA j'=false:=by unfold cA;rw[decide_eq_false (by omega)]
          have hnow:bY rule (cA i') (cA j')=false:=by rw[ho1,ho2];unfold bY;simp<;>omega
          rw[show Value.bool false=.bool (bY rule (cA i') (cA j')) from by rw[hnow]<;>rfl]at I;exact⟨I,O⟩
        ·intro h89;refine uO 8 ?_;refine aM 0 0 (aY rfl rfl) ?_ ?_
         ·intro h98;refine uO 5 ?_;refine u1 4 (aF rfl) ?_;intro a I;replace I:=I.kp [0,1,2,7,8,9,10,11,14] rfl;have ho1:cA i'=true:=by unfold cA;rw[decide_eq_true (by omega)]
          have ho2:cA j'=false:=by unfold cA;rw[decide_eq_false (by omega)]
          have hnow:bY rule (cA i') (cA j')=true:=by rw[ho1,ho2];unfold bY;simp<;>omega
          rw[show Value.bool (!false)=.bool (bY rule (cA i') (cA j')) from by rw[hnow]<;>rfl]at I;exact⟨I,O⟩
         ·intro h98;refine uO 10 ?_;intro a I;replace I:=I.kp [0,1,2,7,8,9,10,11,14] rfl;have ho1:cA i'=true:=by unfold cA;rw[decide_eq_true (by omega)]
          have ho2:cA j'=false:=by unfold cA;rw[decide_eq_false (by omega)]
          have hnow:bY rule (cA i') (cA j')=false:=by rw[ho1,ho2];unfold bY;simp<;>omega
          rw[show Value.bool false=.bool (bY rule (cA i') (cA j')) from by rw[hnow]<;>rfl]at I;exact⟨I,O⟩
      ·intro h84;refine uO 1 ?_;refine u1 0 (hU rfl rfl (by omega) (by omega)) ?_;refine aM 0 0 (aY rfl rfl) ?_ ?_
       ·intro h87;refine uO 3 ?_;refine uC 2 ?_;refine aM 0 0 (aY rfl rfl) ?_ ?_
        ·intro h89;refine uO 8 ?_;refine aM 0 0 (aY rfl rfl) ?_ ?_
         ·intro h98;intro a I;exfalso;omega
         ·intro h98;refine uO 10 ?_;intro a I;replace I:=I.kp [0,1,2,7,8,9,10,11,14] rfl;have ho1:cA i'=false:=by unfold cA;rw[decide_eq_false (by omega)]
          have ho2:cA j'=true:=by unfold cA;rw[decide_eq_true (by omega)]
          have hnow:bY rule (cA i') (cA j')=false:=by rw[ho1,ho2];unfold bY;simp<;>omega
          rw[show Value.bool false=.bool (bY rule (cA i') (cA j')) from by rw[hnow]<;>rfl]at I;exact⟨I,O⟩
        ·intro h89;refine uO 8 ?_;refine aM 0 0 (aY rfl rfl) ?_ ?_
         ·intro h98;refine uO 10 ?_;intro a I;replace I:=I.kp [0,1,2,7,8,9,10,11,14] rfl;have ho1:cA i'=false:=by unfold cA;rw[decide_eq_false (by omega)]
          have ho2:cA j'=true:=by unfold cA;rw[decide_eq_true (by omega)]
          have hnow:bY rule (cA i') (cA j')=false:=by rw[ho1,ho2];unfold bY;simp<;>omega
          rw[show Value.bool false=.bool (bY rule (cA i') (cA j')) from by rw[hnow]<;>rfl]at I;exact⟨I,O⟩
         ·intro h98;refine uO 10 ?_;intro a I;replace I:=I.kp [0,1,2,7,8,9,10,11,14] rfl;have ho1:cA i'=false:=by unfold cA;rw[decide_eq_false (by omega)]
          have ho2:cA j'=true:=by unfold cA;rw[decide_eq_true (by omega)]
          have hnow:bY rule (cA i') (cA j')=false:=by rw[ho1,ho2];unfold bY;simp<;>omega
          rw[show Value.bool false=.bool (bY rule (cA i') (cA j')) from by rw[hnow]<;>rfl]at I;exact⟨I,O⟩
       ·intro h87;refine uO 3 ?_;refine uC 2 ?_;refine aM 0 0 (aY rfl rfl) ?_ ?_
        ·intro h89;refine uO 8 ?_;refine aM 0 0 (aY rfl rfl) ?_ ?_
         ·intro h98;intro a I;exfalso;omega
         ·intro h98;refine uO 10 ?_;intro a I;replace I:=I.kp [0,1,2,7,8,9,10,11,14] rfl;have ho1:cA i'=false:=by unfold cA;rw[decide_eq_false (by omega)]
          have ho2:cA j'=false:=by unfold cA;rw[decide_eq_false (by omega)]
          have hnow:bY rule (cA i') (cA j')=false:=by rw[ho1,ho2];unfold bY;simp<;>omega
          rw[show Value.bool false=.bool (bY rule (cA i') (cA j')) from by rw[hnow]<;>rfl]at I;exact⟨I,O⟩
        ·intro h89;refine uO 8 ?_;refine aM 0 0 (aY rfl rfl) ?_ ?_
         ·intro h98;refine uO 10 ?_;intro a I;replace I:=I.kp [0,1,2,7,8,9,10,11,14] rfl;have ho1:cA i'=false:=by unfold cA;rw[decide_eq_false (by omega)]
          have ho2:cA j'=false:=by unfold cA;rw[decide_eq_false (by omega)]
          have hnow:bY rule (cA i') (cA j')=false:=by rw[ho1,ho2];unfold bY;simp<;>omega
          rw[show Value.bool false=.bool (bY rule (cA i') (cA j')) from by rw[hnow]<;>rfl]at I;exact⟨I,O⟩
         ·intro h98;refine uO 10 ?_;intro a I;replace I:=I.kp [0,1,2,7,8,9,10,11,14] rfl;have ho1:cA i'=false:=by unfold cA;rw[decide_eq_false (by omega)]
          have ho2:cA j'=false:=by unfold cA;rw[decide_eq_false (by omega)]
          have hnow:bY rule (cA i') (cA j')=false:=by rw[ho1,ho2];unfold bY;simp<;>omega
          rw[show Value.bool false=.bool (bY rule (cA i') (cA j')) from by rw[hnow]<;>rfl]at I;exact⟨I,O⟩
     ·intro a w hI;clear O I;obtain⟨I,O⟩:=hI;refine rC 4 I ?_;clear I a;refine nk 0 0 (yC rfl rfl IX) ?_ ?_
      ·intro h109;intro a I;simp only[decide_eq_decide,decide_eq_true_eq,decide_eq_false_iff_not,Bool.not_eq_true',Bool.not_eq_false',bne_iff_ne,ne_eq,beq_iff_eq,Bool.not_eq_true,Bool.not_eq_false]at h109;refine rO 7 I ?_;clear I a;intro a I;refine nw I rfl rfl aB jW rfl rfl rfl (by simp[Value.oneCell']) O ?_;clear I a O;intro A112 w O;intro a I;refine cZ I rfl rfl rfl aB jW rfl (O.p 1) (O.rd.src aB (by simp[Value.oneCell'])) (by omega) (by omega) ?_;clear I a O;intro A113 c113 w hc113 O;refine uO 8 ?_;intro a I;replace I:=I.kp [0,1,2,7,8,9,10] rfl;rw[if_neg (by intro hc;rw[←hc]at h109;simp at h109)]at hrel;rw[hrel,←List.append_assoc]at ho;have el:out.length+1=(out++[at_]).length:=by simp
       rw[el]at I;exact⟨us.length+vs.length-(i'+j'),by omega,i',j',out++[at_],_,_,I,cu (gL O el (by simp)),by omega,by omega,by simp;omega,ho,rfl⟩
      ·intro h109;refine uO 5 ?_;intro a I;replace I:=I.kp [0,1,2,7,8,9,10] rfl;rw[if_pos (by simpa using h109),List.nil_append]at hrel;rw[hrel]at ho;rw[←show bY rule (cA i') (cA j')=bY rule (cA i) (cA j) from by simpa using h109]at I;exact⟨us.length+vs.length-(i'+j'),by omega,i',j',out,_,_,I,O,by omega,by omega,by omega,ho,rfl⟩
def Cn (F:Bool→Bool→Bool)(f g:Nat→List bn)(r k:Nat):List Int:=if k<r then comb F (bG (f k)) (bG (g k)) false false false else []
theorem E9 (F:Bool→Bool→Bool)(f g:Nat→List bn)(r:Nat):Cn F f g (r+1) r=comb F (bG (f r)) (bG (g r)) false false false:=if_pos (Nat.lt_succ_self r)
theorem D0 {F:Bool→Bool→Bool}{f g:Nat→List bn}{r k:Nat}(h:k≠r):Cn F f g (r+1) k=Cn F f g r k:=by
 unfold Cn
 by_cases h1:k<r
 ·
  rw[if_pos h1,if_pos (by omega)]
 ·
  rw[if_neg h1,if_neg (by omega)]
theorem rp (a b:aK):(j0 a b).ab.length≤16 * (a.ab.length+b.ab.length+3):=
 qU (fun r _=>na a b r) 16 (Nat.le_refl _)
theorem jC (x:Int):cx [x]=x:=by
 unfold cx
 split
 ·
  rename_i h;rw[h];rfl
 ·
  rfl
theorem wy {x y:List aN}{k:Nat}(h1:k≤x.length)(h2:k≤y.length)(h:x.length≤k∨y.length≤k):dm (x.drop k) (y.drop k)=gu (x.length:Int) (y.length:Int):=by
 rcases Nat.lt_or_ge k x.length with hx | hx
 ·
  have hy:y.length≤k:=by omega
  rw[List.drop_of_length_le hy,List.drop_eq_getElem_cons hx,dm];unfold gu;rw[if_neg (by omega),if_pos (by omega)]
 ·
  rw[List.drop_of_length_le hx];rcases Nat.lt_or_ge k y.length with hy | hy
  ·
   rw[List.drop_eq_getElem_cons hy,dm];unfold gu;rw[if_pos (by omega)]
  ·
   rw[List.drop_of_length_le hy,dm];unfold gu;rw[if_neg (by omega),if_neg (by omega)]
theorem uT (W:World)(ls ms:List (Loc Int))(f g:Nat→List bn)(rule:Int)(hT1:dF ls (fun r=>bG (f r)))(hT2:dF ms (fun r=>bG (g r)))(hR1:∀(r:Nat) (l:Loc Int),ls[r]?=some l→kb W l.a l.c l.xs)(hR2:∀(r:Nat) (l:Loc Int),ms[r]?=some l→kb W l.a l.c l.xs)(hb1:∀r,r<16→(f r).length≤100000000000)(hb2:∀r,r<16→(g r).length≤100000000000):Calls Tryz.prog 282 #[.agg (ls.map Loc.v).toArray,.agg (ms.map Loc.v).toArray,.int .i64 rule] W fun e w'=>∃l3:List (Loc Int),e=.returned (.agg (l3.map Loc.v).toArray)∧dF l3 (fun r=>comb (bY rule) (bG (f r)) (bG (g r)) false false false)∧Sat W w' [br (l3.map (Loc.eI 3))]:=by
 refine bP Tryz.func282 [0,1,2] ?_;have O:=Sat.start W;refine uC 2 ?_;refine uB rfl O ?_;clear O;intro b3 w O;refine uB rfl O ?_;clear O;intro b4 w O;refine uN w3 O ?_;clear O;intro b6 w O;refine uO 4 ?_;refine uN w3 O ?_;clear O;intro b7 w O;refine uO 9 ?_;intro a I;refine wp_loop_ghost (fun (mm:Nat) a w=>∃(r:Nat) (l3:List (Loc Int)),Ag a 27 [(2,.int .i64 rule),(3,.pointer (some ⟨b3,0,none⟩)),(4,.pointer (some ⟨b4,0,none⟩)),(6,.pointer (some ⟨b6,0,none⟩)),(7,.pointer (some ⟨b7,0,none⟩)),(8,.int .i64 ((r:Nat):Int))]∧Sat W w ([dA 377 b7 l3,br (l3.map (Loc.eI 3)),aV b6 (.cells ((List.replicate 16 (⟨none,0,[]⟩:Loc Int)).map Loc.v).toArray 377 (0,0)),dA 377 b4 ms,dA 377 b3 ls])∧(r≤16)∧(dF l3 (Cn (bY rule) f g r))∧mm=16-r) 16 ?_ ?_
 ·replace I:=I.kp [2,3,4,6,7,8] rfl;have hS0:=kO (Loc.eI 3) O (fun L' s=>s.aW 3 1) 16;have hS1:Sat W w [dA 377 b7 (List.replicate 16 (⟨none,0,[]⟩:Loc Int)),br ((List.replicate 16 (⟨none,0,[]⟩:Loc Int)).map (Loc.eI 3)),aV b6 (.cells ((List.replicate 16 (⟨none,0,[]⟩:Loc Int)).map Loc.v).toArray 377 (0,0)),dA 377 b4 ms,dA 377 b3 ls]:=hS0.p 1;exact⟨0,_,I,hS1,(by omega),(by exact km.congr fun r hr=>by simp[Cn]),by omega⟩
 intro m a w hI;clear O I;obtain⟨r,l3,I,O,hr,hT3,rfl⟩:=hI;refine rC 4 I ?_;clear I a;refine aM 0 0 (aq rfl rfl) ?_ ?_
 ·intro h10;obtain⟨lA,lc,hl1⟩:=hT1.get (show r<16 by omega);obtain⟨mA,mc,hl2⟩:=hT2.get (show r<16 by omega);obtain⟨nA,nc,hl3⟩:=hT3.get (show r<16 by omega);have hq1:kb W lA lc (bG (f r)):=hR1 r _ hl1;have hq2:kb W mA mc (bG (g r)):=hR2 r _ hl2;have hf1:=jI (f r);have hf2:=jI (g r);have hbb1:=hb1 r (by omega);have hbb2:=hb2 r (by omega);refine uO 7 ?_;intro a I;refine bg [10,13] O (by kernel_rfl) ?_;replace O:=O.drew;refine rX [0,1] I ?_;clear I a
  refine bA 2 [] rfl (fun w=>(aa rfl ia)) ?_;refine bA 3 [] rfl (fun w=>(iA rfl rfl fz fU)) ?_;refine cW 4 [5] rfl (by exact⟨[],O⟩) (fun w hT=>have O:=hT.sat;(an rfl iy (jx (O.p 4) hl1))) ?_;refine bA 6 [] rfl (fun w=>(aa rfl ia)) ?_;refine bA 7 [] rfl (fun w=>(iA rfl rfl fz fU)) ?_;refine cW 8 [9] rfl (by exact⟨[],O⟩) (fun w hT=>have O:=hT.sat;(an rfl iy (jx (O.p 3) hl2))) ?_;refine bA 11 [] rfl (fun w=>(aa rfl ia)) ?_;intro a I;refine aG 10 (by kernel_rfl) ?_;refine eF I rfl rfl HX rfl (vD _ lA lc (bG (f r)) mA mc (bG (g r)) rule (hq1.sat O) (hq2.sat O) (by omega) (by omega)) ?_;clear I a;rintro e w ⟨A23,c23,rfl,hT⟩;replace O:=O.ar hT;clear hT;refine⟨_,rfl,?_⟩;intro a I;refine⟨.inl rfl,?_⟩
  refine P1 12 [] I rfl (fun w=>(fL (I.ev rfl) (I.ev rfl) fz fU (by omega) (by omega))) ?_;clear I a;intro a I;refine aG 13 (by kernel_rfl) ?_;refine He (i:=r) ⟨A23,c23,comb (bY rule) (bG (f r)) (bG (g r)) false false false⟩ I rfl rfl (by simp) rfl rfl iy fU (O.p 1) hl3 ?_;clear O;intro w O;refine⟨.inl rfl,?_⟩;refine ah (by kernel_rfl) ?_ _;refine rE 4 I ?_;clear I a;refine u1 2 (ad rfl rfl) ?_;intro a I;replace I:=I.kp [2,3,4,6,7,8] rfl;have hS2:=((O.p 2).dJ (iV hl3)).drop;have hS3:=jH (f:=Loc.eI 3) hl3 (l':=⟨A23,c23,comb (bY rule) (bG (f r)) (bG (g r)) false false false⟩) (((hS2.p 1).p 1).p 2);refine⟨16-(r+1),by omega,r+1,_,I,hS3.p 1,by omega,?_,rfl⟩;exact hT3.set (E9 _ _ _ _).symm fun k hk hne=>D0 hne
 ·intro h10;obtain rfl:r=16:=by omega
  refine uO 10 ?_;refine u1 0 (ax (cs:=l3.map Loc.v) rfl yY (by rw[List.length_map,hT3.1];exact qy) (lu O)) ?_;intro a I;refine FA (ls:=l3) (cs:=((List.replicate 16 (⟨none,0,[]⟩:Loc Int)).map Loc.v)) I rfl rfl qy hT3.1 (by simp) (O.p 2) ?_;clear O;intro w O;refine rO 3 I ?_;clear I a;intro a I;refine gP I rfl (dj (cs:=l3.map Loc.v) I rfl yY (by rw[List.length_map,hT3.1];exact qy) (lu O)) ?_;exact⟨l3,rfl,hT3.congr fun r hr=>if_pos hr,cu (O.p 2)⟩
theorem xk (W:World)(p q:PL)(hp:p.ok W)(hq:q.ok W)(hlp:p.d.ab.length≤10000000000)(hlq:q.d.ab.length≤10000000000):Calls Tryz.prog 269 #[.agg #[.slice p.va p.d.vec.length p.vc,.slice p.ca p.d.ab.length p.cc],.agg #[.slice q.va q.d.vec.length q.vc,.slice q.ca q.d.ab.length q.cc]] W fun e w'=>∃x:PL,e=.returned (.agg #[.slice x.va x.d.vec.length x.vc,.slice x.ca x.d.ab.length x.cc])∧x.d=j0 p.d q.d∧Sat W w' [cN 3 x.va x.vc x.d.vec,bH 219 x.ca x.cc x.d.ab]:=by
 refine bP Tryz.func269 [0,1] ?_;have O:=Sat.start W;refine uC 2 ?_;refine uB rfl O ?_;clear O;intro b2 w O;refine uB rfl O ?_;clear O;intro b3 w O;refine uN dN O ?_;clear O;intro b4 w O;refine uO 3 ?_;intro a I;refine bg [3,4,5,6] O (by kernel_rfl) ?_;replace O:=O.drew;refine X1 0 [] I rfl (by exact⟨[],O⟩) (fun w hT=>have O:=hT.sat;(ax (cs:=[_,_]) (I.ev rfl) fy bj (by exact (O.p 2).aE (xs:=[_,_]) rfl))) ?_;clear I a;refine cW 2 [] rfl (by exact⟨[],O⟩) (fun w hT=>have O:=hT.sat;(lS (cs:=[_,_]) rfl)) ?_;intro a I;refine aG 1 (by kernel_rfl) ?_;refine eF I rfl rfl GB rfl (oJ _ p (hp.sat O) hlp) ?_;clear I a;rintro e w ⟨ls,rfl,hT1,hT⟩;replace O:=O.ar hT;clear hT;refine⟨_,rfl,?_⟩;intro a I;refine⟨.inr fun _=>(by exact⟨[_],O⟩),?_⟩;refine aG 3 (by kernel_rfl) ?_
 refine eF I rfl rfl GB rfl (oJ _ q (hq.sat O) hlq) ?_;clear I a;rintro e w ⟨ms,rfl,hT2,hT⟩;replace O:=O.ar hT;clear hT;refine⟨_,rfl,?_⟩;intro a I;refine⟨.inl rfl,?_⟩;refine aG 4 (by kernel_rfl) ?_;refine eF I rfl rfl II rfl (uT _ ls ms (aO p.d) (aO q.d) 2 hT1 hT2 (fun r l h=>kx (O.p 1) h) (fun r l h=>kx O h) (fun r hr=>by have:=cH (cO p.d r);have:=ed p.d r;unfold aO;omega) (fun r hr=>by have:=cH (cO q.d r);have:=ed q.d r;unfold aO;omega)) ?_;clear I a;rintro e w ⟨ns,rfl,hT0,hT⟩;replace O:=O.ar hT;clear hT;have hT3:dF ns (fun r=>bG (ej (aO p.d r) (aO q.d r))):=hT0.congr fun r hr=>(by rw[AB];exact AA (bx p.d r) (bx q.d r))
 refine⟨_,rfl,?_⟩;intro a I;refine⟨.inl rfl,?_⟩;refine aG 5 (by kernel_rfl) ?_;refine eF I rfl rfl I2 rfl (tJ _ ns (fun r=>ej (aO p.d r) (aO q.d r)) hT3 (fun r=>kM (bx p.d r) (bx q.d r)) (fun r l h=>kx O h) (fun r hr=>by have:=na p.d q.d r;omega)) ?_;clear I a;rintro e w ⟨x,rfl,hx,hT⟩;replace O:Sat _ _ (_::_::_):=O.ag hT;clear hT;refine⟨_,rfl,?_⟩;intro a I;refine⟨.inl rfl,?_⟩;refine aG 6 (by kernel_rfl) ?_;refine dr (vs:=[_,_]) (cs':=[_,_]) I rfl rfl rfl bj (by simp[Value.oneCell']) (O.p 5) rfl rfl ?_;clear O;intro w O;refine⟨.inl rfl,?_⟩;refine ah (by kernel_rfl) ?_ _;refine rE 2 I ?_;clear I a;intro a I;refine gP I rfl (dj (cs:=[_,_]) I rfl fy bj (by exact O.aE (xs:=[_,_]) rfl)) ?_;exact⟨x,rfl,hx,oW ((O.p 2).p 2)⟩
theorem o6 (W:World)(p q:PL)(hp:p.ok W)(hq:q.ok W)(hlp:p.d.ab.length≤300000000)(hlq:q.d.ab.length≤300000000):Calls Tryz.prog 236 #[.agg #[.slice p.va p.d.vec.length p.vc,.slice p.ca p.d.ab.length p.cc],.agg #[.slice q.va q.d.vec.length q.vc,.slice q.ca q.d.ab.length q.cc]] W fun e w'=>e=.returned (.bool (cj p.d q.d))∧Sat W w' []:=by
 refine bP Tryz.func236 [0,1] ?_;have O:=Sat.start W;refine uC 2 ?_;refine uB rfl O ?_;clear O;intro b2 w O;refine uB rfl O ?_;clear O;intro b3 w O;refine uO 5 ?_;refine u1 0 (lS (cs:=[_,_]) rfl) ?_;refine u1 0 (lS (cs:=[_,_]) rfl) ?_;refine uF rfl (xk _ p q (hp.sat O) (hq.sat O) (by omega) (by omega)) ?_;rintro e w ⟨x,rfl,hx,hT⟩;replace O:Sat _ _ (_::_::_):=O.ag hT;clear hT;refine uF rfl (iW _ x ⟨O.rd,(O.p 1).rd⟩ (by rw[hx];have:=rp p.d q.d;omega)) ?_;rintro e w ⟨rfl,hT2⟩;replace O:Sat _ _ _:=O.ag hT2;clear hT2;refine uO 4 ?_;refine aU ?_;refine⟨?_,O.nil⟩;rw[hx,xR]
theorem lr (W:World)(p q:PL)(hp:p.ok W)(hq:q.ok W)(hlp:p.d.ab.length≤10000000000)(hlq:q.d.ab.length≤10000000000):Calls Tryz.prog 262 #[.agg #[.slice p.va p.d.vec.length p.vc,.slice p.ca p.d.ab.length p.cc],.agg #[.slice q.va q.d.vec.length q.vc,.slice q.ca q.d.ab.length q.cc]] W fun e w'=>e=.returned (.int .i64 (p4 p.d q.d))∧Sat W w' []:=by
 refine bP Tryz.func262 [0,1] ?_;have O:=Sat.start W;refine uC 2 ?_;refine uB rfl O ?_;clear O;intro b2 w O;refine uB rfl O ?_;clear O;intro b3 w O;refine uO 5 ?_;refine u1 0 (lS (cs:=[_,_]) rfl) ?_;refine uF rfl (lL _ p (hp.sat O) hlp) ?_;rintro e w ⟨x,rfl,hx,hT⟩;obtain⟨xva,xvc,xca,xcc,xd⟩:=x;dsimp only at hx hT;have hcx:=i6 p.d;rw[←hx]at hcx;have hlx:=jG p.d;rw[←hx]at hlx;have hxv:=hcx.len;dsimp only;replace O:Sat _ _ (_::_::_):=O.ag hT;clear hT;refine uW (vs:=[_,_]) (cs':=[_,_]) rfl rfl bj (O.p 3) ?_;clear O;intro w O;refine uO 4 ?_;refine u1 0 (lS (cs:=[_,_]) rfl) ?_;refine uF rfl (lL _ q (hq.sat O) hlq) ?_
 rintro e w ⟨y,rfl,hy,hT⟩;obtain⟨yva,yvc,yca,ycc,yd⟩:=y;dsimp only at hy hT;have hcy:=i6 q.d;rw[←hy]at hcy;have hly:=jG q.d;rw[←hy]at hly;have hyv:=hcy.len;dsimp only;replace O:Sat _ _ (_::_::_):=O.ag hT;clear hT;refine uW (vs:=[_,_]) (cs':=[_,_]) rfl rfl bj (O.p 5) ?_;clear O;intro w O;refine uO 9 ?_;intro a I;refine wp_loop_ghost (fun (mm:Nat) a w=>∃(r:Nat),Ag a 106 [(2,.pointer (some ⟨b2,0,none⟩)),(3,.pointer (some ⟨b3,0,none⟩)),(5,.int .i64 ((r:Nat):Int))]∧Sat W w ([aV b3 (.cells #[.slice yva yd.vec.length yvc,.slice yca yd.ab.length ycc] 63),aV b2 (.cells #[.slice xva xd.vec.length xvc,.slice xca xd.ab.length xcc] 63),cN 3 xva xvc xd.vec,bH 219 xca xcc xd.ab,cN 3 yva yvc yd.vec,bH 219 yca ycc yd.ab])∧(r≤16)∧(cx (((List.range 16).map fun r=>gu (av xd.vec r) (av yd.vec r)).take r)=0)∧mm=16-r) 16 ?_ ?_
 ·replace I:=I.kp [2,3,5] rfl;exact⟨0,I,((((((O.p 2).p 2).p 5).p 5).p 5).p 5),(by omega),(by rfl),by omega⟩
 intro m a w hI;clear O I;obtain⟨r,I,O,hr,he,rfl⟩:=hI;refine rC 4 I ?_;clear I a;refine aM 0 0 (aq rfl rfl) ?_ ?_
 ·intro h16;refine uO 17 ?_;refine u1 0 (aa rfl cy) ?_;refine u1 0 (ld rfl) ?_;refine u1 0 (ak rfl aB) ?_;refine aM 0 0 (aq rfl rfl) ?_ ?_
  ·intro h23;refine uO 4 ?_;refine u1 0 (aa rfl cy) ?_;refine u1 1 (ld rfl) ?_;obtain⟨xva_p,rfl⟩:∃q,xva=some q:=(O.p 2).rd.ao (by omega);obtain⟨v1,hv1⟩:∃zz_,xd.vec[r]?=some zz_:=⟨_,List.getElem?_eq_getElem (by omega)⟩;refine u1 0 (ix rfl rfl aB fS) ?_;refine u1 7 (an rfl dE (gb (O.p 2).rd (bu hv1))) ?_;refine u1 0 (aa rfl cy) ?_;refine u1 0 (ld rfl) ?_;refine u1 0 (ak rfl aB) ?_;refine aM 0 0 (aq rfl rfl) ?_ ?_
   ·intro h33;refine uO 4 ?_;refine u1 0 (aa rfl cy) ?_;refine u1 1 (ld rfl) ?_;obtain⟨yva_p,rfl⟩:∃q,yva=some q:=(O.p 4).rd.ao (by omega);obtain⟨v2,hv2⟩:∃zz_,yd.vec[r]?=some zz_:=⟨_,List.getElem?_eq_getElem (by omega)⟩;refine u1 0 (ix rfl rfl aB fS) ?_;refine u1 7 (an rfl dE (gb (O.p 4).rd (bu hv2))) ?_;refine aM 0 0 (aD rfl rfl) ?_ ?_
    ·intro h41;refine uO 7 ?_;refine uF rfl (gm _ _ _) ?_;rintro e w ⟨rfl,hT⟩;replace O:Sat _ _ _:=O.ag hT;clear hT;refine uO 9 ?_;refine aU ?_;have hg:((List.range 16).map fun r=>gu (av xd.vec r) (av yd.vec r))[r]?=some (gu (av xd.vec r) (av yd.vec r)):=by rw[List.getElem?_map,List.getElem?_range (by omega)];rfl
     have hvx:=dv hv1;have hvy:=dv hv2;have hne:gu (av xd.vec r) (av yd.vec r)≠0:=by rw[hvx,hvy];exact j8 h41
     have hz:=kS hg he hne;refine⟨?_,O.nil⟩;unfold p4 rA;rw[←hx,←hy,cd,hz,if_neg hne,hvx,hvy]
    ·intro h41;refine uO 8 ?_;refine u1 2 (ad rfl rfl) ?_;intro a I;replace I:=I.kp [2,3,5] rfl;have hg:((List.range 16).map fun r=>gu (av xd.vec r) (av yd.vec r))[r]?=some (gu (av xd.vec r) (av yd.vec r)):=by rw[List.getElem?_map,List.getElem?_range (by omega)];rfl
     have hvx:=dv hv1;have hvy:=dv hv2;exact⟨16-(r+1),by omega,r+1,I,O,by omega,kD hg he (by rw[hvx,hvy];exact ew.2 (by omega)),rfl⟩
   ·intro h33;refine uO 9 ?_;refine aM 0 0 (aD rfl rfl) ?_ ?_
    ·intro h41;refine uO 7 ?_;refine uF rfl (gm _ _ _) ?_;rintro e w ⟨rfl,hT⟩;replace O:Sat _ _ _:=O.ag hT;clear hT;refine uO 9 ?_;refine aU ?_;have hg:((List.range 16).map fun r=>gu (av xd.vec r) (av yd.vec r))[r]?=some (gu (av xd.vec r) (av yd.vec r)):=by rw[List.getElem?_map,List.getElem?_range (by omega)];rfl
     have hvx:=dv hv1;have hvy:av yd.vec r=0:=ey (by omega);have hne:gu (av xd.vec r) (av yd.vec r)≠0:=by rw[hvx,hvy];exact j8 h41
     have hz:=kS hg he hne;refine⟨?_,O.nil⟩;unfold p4 rA;rw[←hx,←hy,cd,hz,if_neg hne,hvx,hvy]
    ·intro h41;refine uO 8 ?_;refine u1 2 (ad rfl rfl) ?_;intro a I;replace I:=I.kp [2,3,5] rfl;have hg:((List.range 16).map fun r=>gu (av xd.vec r) (av yd.vec r))[r]?=some (gu (av xd.vec r) (av yd.vec r)):=by rw[List.getElem?_map,List.getElem?_range (by omega)];rfl
     have hvx:=dv hv1;have hvy:av yd.vec r=0:=ey (by omega);exact⟨16-(r+1),by omega,r+1,I,O,by omega,kD hg he (by rw[hvx,hvy];exact ew.2 (by omega)),rfl⟩
  ·intro h23;refine uO 9 ?_;refine u1 0 (aa rfl cy) ?_;refine u1 0 (ld rfl) ?_;refine u1 0 (ak rfl aB) ?_;refine aM 0 0 (aq rfl rfl) ?_ ?_
   ·intro h33;refine uO 4 ?_;refine u1 0 (aa rfl cy) ?_;refine u1 1 (ld rfl) ?_;obtain⟨yva_p,rfl⟩:∃q,yva=some q:=(O.p 4).rd.ao (by omega);obtain⟨v2,hv2⟩:∃zz_,yd.vec[r]?=some zz_:=⟨_,List.getElem?_eq_getElem (by omega)⟩;refine u1 0 (ix rfl rfl aB fS) ?_;refine u1 7 (an rfl dE (gb (O.p 4).rd (bu hv2))) ?_;refine aM 0 0 (aD rfl rfl) ?_ ?_
    ·intro h41;refine uO 7 ?_;refine uF rfl (gm _ _ _) ?_;rintro e w ⟨rfl,hT⟩;replace O:Sat _ _ _:=O.ag hT;clear hT;refine uO 9 ?_;refine aU ?_;have hg:((List.range 16).map fun r=>gu (av xd.vec r) (av yd.vec r))[r]?=some (gu (av xd.vec r) (av yd.vec r)):=by rw[List.getElem?_map,List.getElem?_range (by omega)];rfl
     have hvx:av xd.vec r=0:=ey (by omega);have hvy:=dv hv2;have hne:gu (av xd.vec r) (av yd.vec r)≠0:=by rw[hvx,hvy];exact j8 h41
     have hz:=kS hg he hne;refine⟨?_,O.nil⟩;unfold p4 rA;rw[←hx,←hy,cd,hz,if_neg hne,hvx,hvy]
    ·intro h41;refine uO 8 ?_;refine u1 2 (ad rfl rfl) ?_;intro a I;replace I:=I.kp [2,3,5] rfl;have hg:((List.range 16).map fun r=>gu (av xd.vec r) (av yd.vec r))[r]?=some (gu (av xd.vec r) (av yd.vec r)):=by rw[List.getElem?_map,List.getElem?_range (by omega)];rfl
     have hvx:av xd.vec r=0:=ey (by omega);have hvy:=dv hv2;exact⟨16-(r+1),by omega,r+1,I,O,by omega,kD hg he (by rw[hvx,hvy];exact ew.2 (by omega)),rfl⟩
   ·intro h33;refine uO 9 ?_;refine u1 8 (cQ (aD rfl rfl) (by omega)) ?_;refine u1 2 (ad rfl rfl) ?_;intro a I;replace I:=I.kp [2,3,5] rfl;have hg:((List.range 16).map fun r=>gu (av xd.vec r) (av yd.vec r))[r]?=some (gu (av xd.vec r) (av yd.vec r)):=by rw[List.getElem?_map,List.getElem?_range (by omega)];rfl
    have hvx:av xd.vec r=0:=ey (by omega);have hvy:av yd.vec r=0:=ey (by omega);exact⟨16-(r+1),by omega,r+1,I,O,by omega,kD hg he (by rw[hvx,hvy];exact ew.2 (by omega)),rfl⟩
 ·intro h16;refine uO 15 ?_;intro a I;refine wp_loop_ghost (fun (mm:Nat) a w=>∃(k:Nat),Ag a 106 [(2,.pointer (some ⟨b2,0,none⟩)),(3,.pointer (some ⟨b3,0,none⟩)),(8,.int .i64 ((k:Nat):Int))]∧Sat W w ([aV b3 (.cells #[.slice yva yd.vec.length yvc,.slice yca yd.ab.length ycc] 63),aV b2 (.cells #[.slice xva xd.vec.length xvc,.slice xca xd.ab.length xcc] 63),cN 3 xva xvc xd.vec,bH 219 xca xcc xd.ab,cN 3 yva yvc yd.vec,bH 219 yca ycc yd.ab])∧(k≤xd.ab.length)∧(k≤yd.ab.length)∧(dm (xd.ab.drop k) (yd.ab.drop k)=dm xd.ab yd.ab)∧mm=xd.ab.length-k) xd.ab.length ?_ ?_
  ·replace I:=I.kp [2,3,8] rfl;exact⟨0,I,O,(by omega),(by omega),(by rfl),by omega⟩
  intro m a w hI;clear O I;obtain⟨k,I,O,hk1,hk2,hc,rfl⟩:=hI;refine rC 4 I ?_;clear I a;refine u1 0 (aa rfl bX) ?_;refine u1 0 (ld rfl) ?_;refine u1 0 (ak rfl dp) ?_;refine aM 0 0 (aq rfl rfl) ?_ ?_
  ·intro h49;refine uO 2 ?_;refine u1 0 (aa rfl bX) ?_;refine u1 0 (ld rfl) ?_;refine u1 0 (ak rfl dp) ?_;refine aM 0 0 (aq rfl rfl) ?_ ?_
   ·intro h55;refine uO 8 ?_;intro a I;refine cf (fun a w=>∃(b9 b10:Nat) (s t:aN),Ag a 106 [(2,.pointer (some ⟨b2,0,none⟩)),(3,.pointer (some ⟨b3,0,none⟩)),(8,.int .i64 ((k:Nat):Int)),(9,.pointer (some ⟨b9,0,none⟩)),(10,.pointer (some ⟨b10,0,none⟩))]∧Sat W w ([aV b9 (.cells #[.int .i64 s.rep,.int .i64 s.lo,.int .i64 s.hi] 219),aV b10 (.cells #[.int .i64 t.rep,.int .i64 t.lo,.int .i64 t.hi] 219),aV b3 (.cells #[.slice yva yd.vec.length yvc,.slice yca yd.ab.length ycc] 63),aV b2 (.cells #[.slice xva xd.vec.length xvc,.slice xca xd.ab.length xcc] 63),cN 3 xva xvc xd.vec,bH 219 xca xcc xd.ab,cN 3 yva yvc yd.vec,bH 219 yca ycc yd.ab])∧(xd.ab[k]?=some s)∧(yd.ab[k]?=some t)) ?_ ?_
    ·refine bg [13] O (by kernel_rfl) ?_;replace O:=O.drew;refine P1 0 [] I rfl (fun w=>(aa (I.ev rfl) bX)) ?_;clear I a;refine cW 1 [2] rfl (by exact⟨[],O⟩) (fun w hT=>have O:=hT.sat;(ld rfl)) ?_;obtain⟨xca_p,rfl⟩:∃q,xca=some q:=(O.p 3).rd.ao (by omega);obtain⟨s,hs⟩:∃zz_,xd.ab[k]?=some zz_:=⟨_,List.getElem?_eq_getElem (by omega)⟩;refine bA 3 [] rfl (fun w=>(ix rfl rfl dp cL)) ?_;refine cW 4 [] rfl (by exact⟨[],O⟩) (fun w hT=>have O:=hT.sat;(ax (cs:=gi s) rfl kg cL (fun j u e=>bI (O.p 3).rd (dB hs j u e)))) ?_;refine bA 5 [] rfl (fun w=>(aa rfl bX)) ?_;refine cW 6 [7] rfl (by exact⟨[],O⟩) (fun w hT=>have O:=hT.sat;(ld rfl)) ?_;obtain⟨yca_p,rfl⟩:∃q,yca=some q:=(O.p 5).rd.ao (by omega);obtain⟨t,ht⟩:∃zz_,yd.ab[k]?=some zz_:=⟨_,List.getElem?_eq_getElem (by omega)⟩
     refine bA 8 [] rfl (fun w=>(ix rfl rfl dp cL)) ?_;refine cW 9 [] rfl (by exact⟨[],O⟩) (fun w hT=>have O:=hT.sat;(ax (cs:=gi t) rfl kg cL (fun j u e=>bI (O.p 5).rd (dB ht j u e)))) ?_;intro a I;refine np 10 11 (by kernel_rfl) ?_ ?_
     ·refine eN I rfl rfl mz O ?_;clear I a O;intro b9 w O;intro a I;refine⟨.inr fun _=>(by exact⟨[_],O⟩),?_⟩;refine aG 11 (by kernel_rfl) ?_;refine eN I rfl rfl mz O ?_;clear I a O;intro b10 w O;intro a I;refine⟨.inr fun _=>(by exact⟨[_,_],O⟩),?_⟩;refine aG 12 (by kernel_rfl) ?_;refine dr (vs:=[_,_,_]) (cs':=[_,_,_]) I rfl rfl rfl cL (by simp[Value.oneCell']) (O.p 1) rfl rfl ?_;clear O;intro w O;refine⟨.inr fun _=>(by exact⟨[_,_],O⟩),?_⟩;refine aG 13 (by kernel_rfl) ?_;refine dr (vs:=[_,_,_]) (cs':=[_,_,_]) I rfl rfl rfl cL (by simp[Value.oneCell']) (O.p 1) rfl rfl ?_;clear O;intro w O;refine⟨.inl rfl,?_⟩;refine ah (by kernel_rfl) ?_ _;replace I:=I.kp [2,3,8,9,10] rfl
      first
       | exact⟨b9,b10,s,t,I,((((((((O.p 7).p 7).p 7).p 7).p 7).p 7).p 6).p 7).de [_,_,_,_,_,_,_,_],(by exact hs),(by exact ht)⟩
     ·refine eN I rfl rfl mz O ?_;clear I a O;intro b10 w O;intro a I;refine⟨.inr fun _=>(by exact⟨[_],O⟩),?_⟩;refine aG 10 (by kernel_rfl) ?_;refine eN I rfl rfl mz O ?_;clear I a O;intro b9 w O;intro a I;refine⟨.inr fun _=>(by exact⟨[_,_],O⟩),?_⟩;refine aG 12 (by kernel_rfl) ?_;refine dr (vs:=[_,_,_]) (cs':=[_,_,_]) I rfl rfl rfl cL (by simp[Value.oneCell']) O rfl rfl ?_;clear O;intro w O;refine⟨.inr fun _=>(by exact⟨[_,_],O⟩),?_⟩;refine aG 13 (by kernel_rfl) ?_;refine dr (vs:=[_,_,_]) (cs':=[_,_,_]) I rfl rfl rfl cL (by simp[Value.oneCell']) (O.p 1) rfl rfl ?_;clear O;intro w O;refine⟨.inl rfl,?_⟩;refine ah (by kernel_rfl) ?_ _;replace I:=I.kp [2,3,8,9,10] rfl
      first
       | exact⟨b9,b10,s,t,I,((((((((O.p 7).p 7).p 7).p 7).p 7).p 7).p 6).p 7).de [_,_,_,_,_,_,_,_],(by exact hs),(by exact ht)⟩
    ·intro a w hI;clear O I;obtain⟨b9,b10,s,t,I,O,hs,ht⟩:=hI;refine rC 3 I ?_;clear I a;refine u1 0 (aa rfl bT) ?_;refine u1 0 (ld rfl) ?_;refine u1 0 (aa rfl bT) ?_;refine u1 0 (ld rfl) ?_;refine aM 0 0 (aD rfl rfl) ?_ ?_
     ·intro h73;refine uO 5 ?_;refine u1 0 (aa rfl bT) ?_;refine u1 0 (ld rfl) ?_;refine u1 0 (aa rfl bT) ?_;refine u1 0 (ld rfl) ?_;refine uF rfl (gm _ _ _) ?_;rintro e w ⟨rfl,hT⟩;replace O:Sat _ _ _:=O.ag hT;clear hT;refine uO 10 ?_;refine aU ?_;have hz:cx ((List.range 16).map fun r=>gu (av xd.vec r) (av yd.vec r))=0:=by rw[←List.take_of_length_le (l:=((List.range 16).map fun r=>gu (av xd.vec r) (av yd.vec r))) (i:=r) (by simp;omega)];exact he
      have hq:i7 s t=gu s.rep t.rep:=by unfold i7;simp only[cx];rw[if_neg (j8 h73)]
      rw[aH hs,aH ht,dm,if_neg (by rw[hq];exact j8 h73),hq]at hc;refine⟨?_,O.nil⟩;unfold p4 rA;rw[←hx,←hy,cd,hz,if_pos rfl,jC,←hc]
     ·intro h73;refine uO 8 ?_;refine u1 0 (aa rfl dU) ?_;refine u1 0 (ld rfl) ?_;refine u1 0 (aa rfl dU) ?_;refine u1 0 (ld rfl) ?_;refine aM 0 0 (aD rfl rfl) ?_ ?_
      ·intro h83;refine uO 5 ?_;refine u1 0 (aa rfl dU) ?_;refine u1 0 (ld rfl) ?_;refine u1 0 (aa rfl dU) ?_;refine u1 0 (ld rfl) ?_;refine uF rfl (gm _ _ _) ?_;rintro e w ⟨rfl,hT⟩;replace O:Sat _ _ _:=O.ag hT;clear hT;refine uO 10 ?_;refine aU ?_;have hz:cx ((List.range 16).map fun r=>gu (av xd.vec r) (av yd.vec r))=0:=by rw[←List.take_of_length_le (l:=((List.range 16).map fun r=>gu (av xd.vec r) (av yd.vec r))) (i:=r) (by simp;omega)];exact he
       have hq:i7 s t=gu s.lo t.lo:=by unfold i7;simp only[cx];rw[if_pos (ew.2 (by omega))];rw[if_neg (j8 h83)]
       rw[aH hs,aH ht,dm,if_neg (by rw[hq];exact j8 h83),hq]at hc;refine⟨?_,O.nil⟩;unfold p4 rA;rw[←hx,←hy,cd,hz,if_pos rfl,jC,←hc]
      ·intro h83;refine uO 7 ?_;refine u1 0 (aa rfl dV) ?_;refine u1 0 (ld rfl) ?_;refine u1 0 (aa rfl dV) ?_;refine u1 0 (ld rfl) ?_;refine aM 0 0 (aD rfl rfl) ?_ ?_
       ·intro h93;refine uO 5 ?_;refine u1 0 (aa rfl dV) ?_;refine u1 0 (ld rfl) ?_;refine u1 0 (aa rfl dV) ?_;refine u1 0 (ld rfl) ?_;refine uF rfl (gm _ _ _) ?_;rintro e w ⟨rfl,hT⟩;replace O:Sat _ _ _:=O.ag hT;clear hT;refine uO 9 ?_;refine aU ?_;have hz:cx ((List.range 16).map fun r=>gu (av xd.vec r) (av yd.vec r))=0:=by rw[←List.take_of_length_le (l:=((List.range 16).map fun r=>gu (av xd.vec r) (av yd.vec r))) (i:=r) (by simp;omega)];exact he
        have hq:i7 s t=gu s.hi t.hi:=by unfold i7;simp only[cx];rw[if_pos (ew.2 (by omega))];rw[if_pos (ew.2 (by omega))];rw[if_neg (j8 h93)]
        rw[aH hs,aH ht,dm,if_neg (by rw[hq];exact j8 h93),hq]at hc;refine⟨?_,O.nil⟩;unfold p4 rA;rw[←hx,←hy,cd,hz,if_pos rfl,jC,←hc]
       ·intro h93;refine uO 8 ?_;refine u1 2 (ad rfl rfl) ?_;intro a I;replace I:=I.kp [2,3,8] rfl;have hz:i7 s t=0:=by unfold i7;simp only[cx];rw[if_pos (ew.2 (by omega)),if_pos (ew.2 (by omega)),if_pos (ew.2 (by omega))]
        rw[aH hs,aH ht,dm,if_pos hz]at hc;exact⟨xd.ab.length-(k+1),by omega,k+1,I,O.drop.drop,by omega,by omega,hc,rfl⟩
   ·intro h55;refine uO 9 ?_;intro a I;replace I:=I.kp [2,3] rfl;refine rC 2 I ?_;clear I a;refine u1 0 (aa rfl bX) ?_;refine u1 0 (ld rfl) ?_;refine u1 0 (ak rfl dp) ?_;refine u1 0 (aa rfl bX) ?_;refine u1 0 (ld rfl) ?_;refine u1 0 (ak rfl dp) ?_;refine uF rfl (gm _ _ _) ?_;rintro e w ⟨rfl,hT⟩;replace O:Sat _ _ _:=O.ag hT;clear hT;refine uO 4 ?_;refine aU ?_;have hz:cx ((List.range 16).map fun r=>gu (av xd.vec r) (av yd.vec r))=0:=by rw[←List.take_of_length_le (l:=((List.range 16).map fun r=>gu (av xd.vec r) (av yd.vec r))) (i:=r) (by simp;omega)];exact he
    rw[wy (by omega) (by omega) (by omega)]at hc;refine⟨?_,O.nil⟩;unfold p4 rA;rw[←hx,←hy,cd,hz,if_pos rfl,jC,←hc]
  ·intro h49;refine uO 15 ?_;intro a I;replace I:=I.kp [2,3] rfl;refine rC 2 I ?_;clear I a;refine u1 0 (aa rfl bX) ?_;refine u1 0 (ld rfl) ?_;refine u1 0 (ak rfl dp) ?_;refine u1 0 (aa rfl bX) ?_;refine u1 0 (ld rfl) ?_;refine u1 0 (ak rfl dp) ?_;refine uF rfl (gm _ _ _) ?_;rintro e w ⟨rfl,hT⟩;replace O:Sat _ _ _:=O.ag hT;clear hT;refine uO 4 ?_;refine aU ?_;have hz:cx ((List.range 16).map fun r=>gu (av xd.vec r) (av yd.vec r))=0:=by rw[←List.take_of_length_le (l:=((List.range 16).map fun r=>gu (av xd.vec r) (av yd.vec r))) (i:=r) (by simp;omega)];exact he
   rw[wy (by omega) (by omega) (by omega)]at hc;refine⟨?_,O.nil⟩;unfold p4 rA;rw[←hx,←hy,cd,hz,if_pos rfl,jC,←hc]
end Go.Proofs.YtkjabaihpkbfhaaGreat.Wk
namespace Go.Proofs.YtkjabaihpkbfhaaGreat.K
open Go Go.RowKit
def rj (a b:List UInt8):Bool:=Op.bytesLess a b
theorem qi (a:List UInt8):rj a []=false:=by cases a<;>rfl
theorem zK (b:UInt8)(y:List UInt8):rj [] (b::y)=true:=rfl
theorem mr (a b:UInt8)(x y:List UInt8):rj (a::x) (b::y)=(decide (a<b) || (a == b && rj x y)):=rfl
theorem pS:∀x:List UInt8,rj x x=false
 | []=>rfl
 | a::x=>by rw[mr,pS x];simp
theorem sY:∀x y:List UInt8,(!(rj x y || x == y))=rj y x
 | [],[]=>rfl
 | [],b::y=>by rw[qi];rfl
 | a::x,[]=>by rw[qi];rfl
 | a :: x, b :: y => by
   rw[mr,mr,←sY x y];rcases Nat.lt_trichotomy a.toNat b.toNat with h | h | h
   ·
    have h1:a<b:=h;have h2:¬b<a:=fun h2=>by have h3:b.toNat<a.toNat:=h2;omega
    have h3:¬b=a:=fun e=>by subst e;omega
    simp[h1,h2,h3]
   ·
    have e:a=b:=UInt8.toNat_inj.1 h;subst e;simp
   ·
    have h1:b<a:=h;have h2:¬a<b:=fun h2=>by have h3:a.toNat<b.toNat:=h2;omega
    have h3:¬a=b:=fun e=>by subst e;omega
    simp[h1,h2,h3]
theorem wB:∀x y z:List UInt8,rj x y=true→rj y z=true→rj x z=true
 | _,_,[],_,h=>by rw[qi]at h;cases h
 | _,[],_::_,h,_=>by rw[qi]at h;cases h
 | [],_::_,_::_,_,_=>rfl
 | a :: x, b :: y, c :: z, h1, h2 => by
   rw[mr]at *;simp only[Bool.or_eq_true,decide_eq_true_eq,Bool.and_eq_true,beq_iff_eq]at *;rcases h1 with h1 | ⟨rfl,h1⟩
   ·
    rcases h2 with h2 | ⟨rfl,h2⟩
    ·
     left;exact UInt8.lt_trans h1 h2
    ·
     exact .inl h1
   ·
    rcases h2 with h2 | ⟨rfl,h2⟩
    ·
     exact .inl h2
    ·
     exact .inr ⟨rfl,wB x y z h1 h2⟩
def yj (a b:ByteArray):Int:=if rj a.data.toList b.data.toList then -1 else if rj b.data.toList a.data.toList then 1 else 0
theorem BA:∀x y:List UInt8,Lib.compareBytes x y=if rj x y then -1 else if rj y x then 1 else 0
 | [],[]=>rfl
 | [],b::y=>by rw[zK];rfl
 | a::x,[]=>by rw[qi,zK];rfl
 | a :: x, b :: y => by
   rw[Lib.compareBytes,BA x y,mr,mr]
   by_cases h:a<b
   ·
    simp[h]
   ·
    by_cases h':b<a
    ·
     have e:¬a=b:=fun e=>h (by subst e;exact h')
     simp[h,h',e]
    ·
     have e:a=b:=UInt8.toNat_inj.1 (by
      have h1:¬a.toNat<b.toNat:=h;have h2:¬b.toNat<a.toNat:=h';omega)
     subst e;simp[h]
section
variable {P:Program} {w:World} {ρ:Operand→Value} {t ty yt:TypeId} {x y:Operand} {ps:String} {af:Array Edge} {dd:Option Tmp} {g:Option (Nat×Bool)}
theorem ob (s:ByteArray):s.size=s.data.toList.length:=by cases s;rfl
theorem Fz {s:ByteArray}{j:Nat}{c:UInt8}(hc:s.data.toList[j]?=some c):∃h:j<s.size,s[j]'h=c:=by
 obtain⟨h,e⟩:=List.getElem?_eq_some_iff.1 hc;have h':j<s.size:=by rw[ob];exact h
 refine⟨h',?_⟩;rw[←e];cases s;rfl
theorem tG {s:ByteArray}{i:Int}{j:Nat}{k:IntKind}{c:UInt8}(hx:ρ x=.string s)(hy:ρ y=.int k i)(ht:P.underlying t=some .string)(hi:i=(j:Int))(hc:s.data.toList[j]?=some c) :
 (execOp ρ ⟨dd,.index t x y,ty,ps,af,g⟩).run P w=.ok (.value (.int .u8 (c.toNat:Int))) w:=by
 subst hi;obtain⟨h,e⟩:=Fz hc;have h2:(0:Int)≤(j:Int)∧(j:Int)<(s.size:Int):=⟨by omega,by omega⟩
 have h3:(Instr.index t (.string s) (.int k (j:Int))).run P w=.ok (.int .u8 (c.toNat:Int)) w:=by
  rw[run_index_string _ _ _ _ _ ht,dif_pos h2];simp only[Int.toNat_natCast];rw[e]
 simp[execOp,hx,hy,h3,go_sem]
theorem Ir {a b:ByteArray}(hx:ρ x=.string a)(hy:ρ y=.string b):(execOp ρ ⟨dd,.binOp .lss t x y yt,ty,ps,af,g⟩).run P w=.ok (.value (.bool (rj a.data.toList b.data.toList))) w:=by
 simp[execOp,hx,hy,binOp,Op.stringOp,rj,go_sem,ByteArray.toList_eq]
theorem Ei {a b:ByteArray}(hx:ρ x=.string a)(hy:ρ y=.string b):(execOp ρ ⟨dd,.binOp .gtr t x y yt,ty,ps,af,g⟩).run P w=.ok (.value (.bool (rj b.data.toList a.data.toList))) w:=by
 have h:=sY a.data.toList b.data.toList;unfold rj at h ⊢;simp[execOp,hx,hy,binOp,Op.stringOp,go_sem,ByteArray.toList_eq,←h]
end
theorem lq {w:World}{sz n c k o j:Nat}{p:Addr}{cs:List Value}{u:Value}(hR:Rd w sz (.slice (some p) n c) n cs)(h:cs[k+(o+j)]?=some u):w.cell? (((p.add k).add o).add j)=some u:=by
 rw[add_add,add_add];exact hR.cell h
end Go.Proofs.YtkjabaihpkbfhaaGreat.K
namespace Go.Proofs.YtkjabaihpkbfhaaGreat.Wk
open Go Go.RowKit Go.Proofs.YtkjabaihpkbfhaaGreat Go.Proofs.YtkjabaihpkbfhaaGreat.K Go.Proofs.YtkjabaihpkbfhaaGreat.T
theorem C5 {s:ByteArray}(h:s.data.toList.length=0):s={ data:=#[] }:=by
 obtain⟨⟨l⟩⟩:=s;have:l=[]:=List.eq_nil_of_length_eq_zero h;subst this;rfl
theorem jA (x:aS)(j:Nat)(u:Value)(e:([Value.int .i64 x.rep,Value.int .i64 x.num]:List Value)[j]?=some u):(mf x)[0+j]?=some u:=by
 have hj:=(List.getElem?_eq_some_iff.1 e).1;rw[Nat.zero_add,←e]
 match j,hj with
 | 0,_=>rfl
 | 1,_=>rfl
theorem uG (W:World)(c:UInt8)  : Calls Tryz.prog 246 #[.int .u8 (c.toNat:Int)] W fun e w'=>e=.returned (.bool (xG c))∧Sat W w' []:=by
 refine bP Tryz.func246 [0] ?_;have O:=Sat.start W;refine uC 8 ?_;refine aM 0 0 (dT rfl rfl) ?_ ?_
 ·intro h4;refine uO 2 ?_;refine u1 5 (dT rfl rfl) ?_;refine aU ?_;refine⟨?_,O⟩;unfold xG
  congr 2
  rw[Bool.eq_iff_iff];simp only[Bool.and_eq_true,Bool.or_eq_true,decide_eq_true_eq,Bool.false_eq_true,false_iff,true_iff];omega
 ·intro h4;refine uO 8 ?_;refine aU ?_;refine⟨?_,O⟩;unfold xG
  congr 2
  rw[Bool.eq_iff_iff];simp only[Bool.and_eq_true,Bool.or_eq_true,decide_eq_true_eq,Bool.false_eq_true,false_iff,true_iff];omega
theorem vS (W:World)(c:UInt8)  : Calls Tryz.prog 247 #[.int .u8 (c.toNat:Int)] W fun e w'=>e=.returned (.bool (xB c))∧Sat W w' []:=by
 refine bP Tryz.func247 [0] ?_;have O:=Sat.start W;refine uC 8 ?_;refine aM 0 0 (dT rfl rfl) ?_ ?_
 ·intro h4;refine uO 2 ?_;refine u1 5 (dT rfl rfl) ?_;refine aU ?_;refine⟨?_,O⟩;unfold xB
  congr 2
  rw[Bool.eq_iff_iff];simp only[Bool.and_eq_true,Bool.or_eq_true,decide_eq_true_eq,Bool.false_eq_true,false_iff,true_iff];omega
 ·intro h4;refine uO 8 ?_;refine aU ?_;refine⟨?_,O⟩;unfold xB
  congr 2
  rw[Bool.eq_iff_iff];simp only[Bool.and_eq_true,Bool.or_eq_true,decide_eq_true_eq,Bool.false_eq_true,false_iff,true_iff];omega
theorem qY (W:World)(c:UInt8)  : Calls Tryz.prog 248 #[.int .u8 (c.toNat:Int)] W fun e w'=>e=.returned (.bool (ud c))∧Sat W w' []:=by
 refine bP Tryz.func248 [0] ?_;have O:=Sat.start W;refine uC 8 ?_;refine aM 0 0 (aY rfl rfl) ?_ ?_
 ·intro h4;refine uO 8 ?_;refine aU ?_;refine⟨?_,O⟩;unfold ud
  congr 2
  rw[Bool.eq_iff_iff];simp only[Bool.and_eq_true,Bool.or_eq_true,decide_eq_true_eq,Bool.false_eq_true,false_iff,true_iff];omega
 ·intro h4;refine uO 2 ?_;refine u1 5 (aY rfl rfl) ?_;refine aU ?_;refine⟨?_,O⟩;unfold ud
  congr 2
  rw[Bool.eq_iff_iff];simp only[Bool.and_eq_true,Bool.or_eq_true,decide_eq_true_eq,Bool.false_eq_true,false_iff,true_iff];omega
theorem xp (W:World)(c:UInt8)  : Calls Tryz.prog 291 #[.int .u8 (c.toNat:Int)] W fun e w'=>e=.returned (.bool (xG c))∧Sat W w' []:=by
 refine bP Tryz.func291 [0] ?_;have O:=Sat.start W;refine uC 8 ?_;refine aM 0 0 (ek rfl rfl) ?_ ?_
 ·intro h4;refine uO 2 ?_;refine u1 5 (dT rfl rfl) ?_;refine aU ?_;refine⟨?_,O⟩;unfold xG
  congr 2
  rw[Bool.eq_iff_iff];simp only[Bool.and_eq_true,Bool.or_eq_true,decide_eq_true_eq,Bool.false_eq_true,false_iff,true_iff];omega
 ·intro h4;refine uO 8 ?_;refine aU ?_;refine⟨?_,O⟩;unfold xG
  congr 2
  rw[Bool.eq_iff_iff];simp only[Bool.and_eq_true,Bool.or_eq_true,decide_eq_true_eq,Bool.false_eq_true,false_iff,true_iff];omega
theorem ze (W:World)(c:UInt8)  : Calls Tryz.prog 292 #[.int .u8 (c.toNat:Int)] W fun e w'=>e=.returned (.bool (xB c))∧Sat W w' []:=by
 refine bP Tryz.func292 [0] ?_;have O:=Sat.start W;refine uC 8 ?_;refine aM 0 0 (ek rfl rfl) ?_ ?_
 ·intro h4;refine uO 2 ?_;refine u1 5 (dT rfl rfl) ?_;refine aU ?_;refine⟨?_,O⟩;unfold xB
  congr 2
  rw[Bool.eq_iff_iff];simp only[Bool.and_eq_true,Bool.or_eq_true,decide_eq_true_eq,Bool.false_eq_true,false_iff,true_iff];omega
 ·intro h4;refine uO 8 ?_;refine aU ?_;refine⟨?_,O⟩;unfold xB
  congr 2
  rw[Bool.eq_iff_iff];simp only[Bool.and_eq_true,Bool.or_eq_true,decide_eq_true_eq,Bool.false_eq_true,false_iff,true_iff];omega
theorem uv (W:World)(c:UInt8)  : Calls Tryz.prog 293 #[.int .u8 (c.toNat:Int)] W fun e w'=>e=.returned (.bool (ud c))∧Sat W w' []:=by
 refine bP Tryz.func293 [0] ?_;have O:=Sat.start W;refine uC 8 ?_;refine aM 0 0 (aY rfl rfl) ?_ ?_
 ·intro h4;refine uO 8 ?_;refine aU ?_;refine⟨?_,O⟩;unfold ud
  congr 2
  rw[Bool.eq_iff_iff];simp only[Bool.and_eq_true,Bool.or_eq_true,decide_eq_true_eq,Bool.false_eq_true,false_iff,true_iff];omega
 ·intro h4;refine uO 2 ?_;refine u1 5 (aY rfl rfl) ?_;refine aU ?_;refine⟨?_,O⟩;unfold ud
  congr 2
  rw[Bool.eq_iff_iff];simp only[Bool.and_eq_true,Bool.or_eq_true,decide_eq_true_eq,Bool.false_eq_true,false_iff,true_iff];omega
theorem tO (W:World)(s:ByteArray)  : Calls Tryz.prog 196 #[.string s] W fun e w'=>e=.returned (.tuple #[.int .i64 (((p5 s.data.toList).1:Nat):Int),.int .i64 (p5 s.data.toList).2])∧Sat W w' []:=by
 refine bP Tryz.func196 [0] ?_;have O:=Sat.start W;have hsz:=ob s;refine uC 10 ?_;refine aM 0 0 (iM rfl rfl) ?_ ?_
 ·intro h7;refine uO 11 ?_;refine fx ?_;obtain rfl:=h7;exact⟨rfl,O⟩
 ·intro h7;have h0:s.data.toList.length≠0:=fun h0=>h7 (C5 h0)
  refine uO 9 ?_;refine u1 0 (gZ rfl xj) ?_;refine aM 0 0 (db rfl rfl) ?_ ?_
  ·intro h10;refine uO 11 ?_;refine fx ?_;refine⟨?_,O⟩;unfold p5;rw[if_neg (by omega),if_pos (by omega)];rfl
  ·intro h10;intro a I;rw[hsz]at I h10;refine rO 9 I ?_;clear I a;refine u1 4 (gZ rfl xj) ?_;intro a I;refine wp_loop_ghost (fun (mm:Nat) a w=>∃(i:Nat),Ag a 48 [(0,.string s),(12,.int .i64 ((s.data.toList.length:Nat):Int)),(13,.int .i64 ((i:Nat):Int))]∧Sat W w ([])∧(i≤s.data.toList.length)∧(∀j,j<i→rk s.data.toList j=true)∧mm=s.data.toList.length-i) s.data.toList.length ?_ ?_
   ·replace I:=I.kp [0,12,13] rfl;exact⟨0,I,O,(by omega),(by intro j hj;omega),by omega⟩
   intro m a w hI;clear O I;obtain⟨i,I,O,hi,he,rfl⟩:=hI;refine rC 2 I ?_;clear I a;refine aM 0 0 (aq rfl rfl) ?_ ?_
   ·intro h14;refine uO 18 ?_;obtain⟨c,hc⟩:∃zz_,s.data.toList[i]?=some zz_:=⟨_,List.getElem?_eq_getElem (by omega)⟩;refine u1 7 (tG rfl rfl xj (by omega) hc) ?_;refine uF rfl (uG _ c) ?_;rintro e w ⟨rfl,hT⟩;replace O:Sat _ _ _:=O.ag hT;clear hT;generalize h20:(xG c)=bb;cases bb
    ·refine uO 2 ?_;refine jL rfl (vS _ c) ?_;rintro e w ⟨rfl,hT⟩;replace O:Sat _ _ _:=O.ag hT;clear hT;generalize h23:(xB c)=bb;cases bb
     ·refine uO 9 ?_;refine uF rfl (qY _ c) ?_;rintro e w ⟨rfl,hT⟩;replace O:Sat _ _ _:=O.ag hT;clear hT;generalize h26:(ud c)=bb;cases bb
      ·refine u1 34 (aF rfl) ?_;refine fx ?_
       have hst:rk s.data.toList i=false:=by
        unfold rk;rw[hc];simp[h20,h23,h26]
       refine⟨?_,O⟩;rw[oc (by omega) (by omega) (by omega) hst he]
      ·refine u1 2 (aF rfl) ?_;refine aM 0 0 (aY rfl rfl) ?_ ?_
       ·intro h30;refine uO 31 ?_;refine fx ?_
        have hst:rk s.data.toList i=false:=by
         unfold rk;rw[hc];have e:i=0:=by omega
         simp[h20,h23,e]
        refine⟨?_,O⟩;rw[oc (by omega) (by omega) (by omega) hst he]
       ·intro h30;refine uO 4 ?_;refine u1 0 (gZ rfl xj) ?_;refine u1 0 (sb rfl rfl) ?_;refine aM 0 0 (aY rfl rfl) ?_ ?_
        ·intro h37;refine uO 24 ?_;refine fx ?_
         have hst:rk s.data.toList i=false:=by
          unfold rk;rw[hc];have e:i+1=s.size:=by omega
          simp[h20,h23,e]
         refine⟨?_,O⟩;rw[oc (by omega) (by omega) (by omega) hst he]
        ·intro h37;refine uO 4 ?_;refine u1 0 (sb rfl rfl) ?_;obtain⟨p,hp⟩:∃zz_,s.data.toList[i-1]?=some zz_:=⟨_,List.getElem?_eq_getElem (by omega)⟩;refine u1 0 (tG rfl rfl xj (by omega) hp) ?_;refine jL rfl (qY _ p) ?_;rintro e w ⟨rfl,hT⟩;replace O:Sat _ _ _:=O.ag hT;clear hT;generalize h44:(ud p)=bb;cases bb
         ·refine uO 8 ?_;refine u1 2 (ad rfl rfl) ?_;intro a I;replace I:=I.kp [0,12,13] rfl
          have hst:rk s.data.toList i=true:=by
           unfold rk;rw[hc];have e1:i≠0:=by omega
           have e2:¬i+1=s.size:=by omega
           simp[h20,h23,h26,e1,e2,hp,h44]
          exact⟨s.data.toList.length-(i+1),by omega,i+1,I,O,by omega,fun j hj=>(by rcases Nat.lt_or_ge j i with h | h;exact he j h;obtain rfl:j=i:=(by omega);exact hst),rfl⟩
         ·refine uO 17 ?_;refine fx ?_
          have hst:rk s.data.toList i=false:=by
           unfold rk;rw[hc];have e1:i≠0:=by omega
           have e2:¬i+1=s.size:=by omega
           simp[h20,h23,h26,e1,e2,hp,h44]
          refine⟨?_,O⟩;rw[oc (by omega) (by omega) (by omega) hst he]
     ·refine uO 9 ?_;refine u1 2 (ad rfl rfl) ?_;intro a I;replace I:=I.kp [0,12,13] rfl
      have hst:rk s.data.toList i=true:=by
       unfold rk;rw[hc];simp[h20,h23]
      exact⟨s.data.toList.length-(i+1),by omega,i+1,I,O,by omega,fun j hj=>(by rcases Nat.lt_or_ge j i with h | h;exact he j h;obtain rfl:j=i:=(by omega);exact hst),rfl⟩
    ·refine uO 12 ?_;refine u1 2 (ad rfl rfl) ?_;intro a I;replace I:=I.kp [0,12,13] rfl
     have hst:rk s.data.toList i=true:=by
      unfold rk;rw[hc];simp[h20]
     exact⟨s.data.toList.length-(i+1),by omega,i+1,I,O,by omega,fun j hj=>(by rcases Nat.lt_or_ge j i with h | h;exact he j h;obtain rfl:j=i:=(by omega);exact hst),rfl⟩
   ·intro h14;refine uO 9 ?_;intro a I;replace I:=I.kp [] rfl;refine rC 7 I ?_;clear I a;refine fx ?_;obtain rfl:i=s.data.toList.length:=by omega
    refine⟨?_,O⟩;rw[Ce (by omega) (by omega) he];rfl
theorem o9 (W:World)(s:ByteArray)  : Calls Tryz.prog 163 #[.string s] W fun e w'=>e=.returned (.bool (mF s))∧Sat W w' []:=by
 refine bP Tryz.func163 [0] ?_;have O:=Sat.start W;refine uC 8 ?_;refine uF rfl (tO _ s) ?_;rintro e w ⟨rfl,hT⟩;replace O:Sat _ _ _:=O.ag hT;clear hT;refine uO 1 ?_;refine u1 0 (aj rfl rfl) ?_;refine u1 7 (aj rfl rfl) ?_;refine u1 4 (aY rfl rfl) ?_;refine aU ?_;exact⟨rfl,O⟩
theorem xK (W:World)(s:ByteArray)(i:Nat)(hi:i<s.data.toList.length)(hl:s.data.toList.length≤24):Calls Tryz.prog 283 #[.string s,.int .i64 ((i:Nat):Int)] W fun e w'=>e=.returned (.bool (rk s.data.toList i))∧Sat W w' []:=by
 refine bP Tryz.func283 [0,1] ?_;have O:=Sat.start W;have hsz:=ob s;refine uC 9 ?_;obtain⟨c,hc⟩:∃zz_,s.data.toList[i]?=some zz_:=⟨_,List.getElem?_eq_getElem (by omega)⟩;refine u1 7 (tG rfl rfl xj (by omega) hc) ?_;refine uF rfl (xp _ c) ?_;rintro e w ⟨rfl,hT⟩;replace O:Sat _ _ _:=O.ag hT;clear hT;generalize h10:(xG c)=bb;cases bb
 ·refine uO 2 ?_;refine jL rfl (ze _ c) ?_;rintro e w ⟨rfl,hT⟩;replace O:Sat _ _ _:=O.ag hT;clear hT;generalize h13:(xB c)=bb;cases bb
  ·refine uO 10 ?_;refine uF rfl (uv _ c) ?_;rintro e w ⟨rfl,hT⟩;replace O:Sat _ _ _:=O.ag hT;clear hT;generalize h16:(ud c)=bb;cases bb
   ·refine u1 10 (aF rfl) ?_;refine aU ?_;refine⟨?_,O⟩
    congr 2
    unfold rk;rw[hc];simp[h10,h13,h16]
   ·refine u1 9 (aF rfl) ?_;refine aM 0 0 (aY rfl rfl) ?_ ?_
    ·intro h19;refine uO 9 ?_;intro a I;replace I:=I.kp [0,1,4,26] rfl;refine rC 8 I ?_;clear I a;refine aU ?_;refine⟨?_,O⟩
     congr 2
     unfold rk;rw[hc];have e:i=0:=by omega
     simp[h10,h13,e]
    ·intro h19;refine uO 3 ?_;refine u1 0 (gZ rfl xj) ?_;refine u1 0 (sb rfl rfl) ?_;refine aM 0 0 (aY rfl rfl) ?_ ?_
     ·intro h25;refine uO 3 ?_;intro a I;replace I:=I.kp [0,1,4,26] rfl;refine rC 8 I ?_;clear I a;refine aU ?_;refine⟨?_,O⟩
      congr 2
      unfold rk;rw[hc];have e:i+1=s.size:=by omega
      simp[h10,h13,e]
     ·intro h25;refine uO 3 ?_;intro a I;replace I:=I.kp [0,1,4,26] rfl;refine rC 7 I ?_;clear I a;refine u1 0 (sb rfl rfl) ?_;obtain⟨p,hp⟩:∃zz_,s.data.toList[i-1]?=some zz_:=⟨_,List.getElem?_eq_getElem (by omega)⟩;refine u1 0 (tG rfl rfl xj (by omega) hp) ?_;refine uF rfl (uv _ p) ?_;rintro e w ⟨rfl,hT⟩;replace O:Sat _ _ _:=O.ag hT;clear hT;refine u1 4 (aF rfl) ?_;refine aU ?_;refine⟨?_,O⟩
      congr 2
      unfold rk;rw[hc];have e1:i≠0:=by omega
      have e2:¬i+1=s.size:=by omega
      simp[h10,h13,h16,e1,e2,hp]
  ·refine uO 11 ?_;refine aU ?_;refine⟨?_,O⟩
   congr 2
   unfold rk;rw[hc];simp[h10,h13]
 ·refine uO 14 ?_;refine aU ?_;refine⟨?_,O⟩
  congr 2
  unfold rk;rw[hc];simp[h10]
theorem sQ (W:World)(s:ByteArray)  : Calls Tryz.prog 272 #[.string s] W fun e w'=>e=.returned (.tuple #[.int .i64 (((p5 s.data.toList).1:Nat):Int),.int .i64 (p5 s.data.toList).2])∧Sat W w' []:=by
 refine bP Tryz.func272 [0] ?_;have O:=Sat.start W;have hsz:=ob s;refine uC 10 ?_;refine u1 0 (gZ rfl xj) ?_;refine aM 0 0 (aY rfl rfl) ?_ ?_
 ·intro h7;refine uO 11 ?_;refine fx ?_;refine⟨?_,O⟩;unfold p5;rw[if_pos (by omega)];rfl
 ·intro h7;refine uO 9 ?_;refine u1 0 (gZ rfl xj) ?_;refine aM 0 0 (db rfl rfl) ?_ ?_
  ·intro h10;refine uO 11 ?_;refine fx ?_;refine⟨?_,O⟩;unfold p5;rw[if_neg (by omega),if_pos (by omega)];rfl
  ·intro h10;refine uO 12 ?_;intro a I;refine wp_loop_ghost (fun (mm:Nat) a w=>∃(i:Nat),Ag a 22 [(0,.string s),(4,.int .i64 ((i:Nat):Int))]∧Sat W w ([])∧(i≤s.data.toList.length)∧(∀j,j<i→rk s.data.toList j=true)∧mm=s.data.toList.length-i) s.data.toList.length ?_ ?_
   ·replace I:=I.kp [0,4] rfl;exact⟨0,I,O,(by omega),(by intro j hj;omega),by omega⟩
   intro m a w hI;clear O I;obtain⟨i,I,O,hi,he,rfl⟩:=hI;refine rC 5 I ?_;clear I a;refine u1 0 (gZ rfl xj) ?_;refine aM 0 0 (aq rfl rfl) ?_ ?_
   ·intro h14;refine uO 11 ?_;refine uF rfl (xK _ s i (by omega) (by omega)) ?_;rintro e w ⟨rfl,hT⟩;replace O:Sat _ _ _:=O.ag hT;clear hT;generalize h19:(rk s.data.toList i)=bb;cases bb
    ·refine u1 16 (aF rfl) ?_;refine fx ?_;refine⟨?_,O⟩;rw[oc (by omega) (by omega) (by omega) h19 he]
    ·refine u1 8 (aF rfl) ?_;refine u1 2 (ad rfl rfl) ?_;intro a I;replace I:=I.kp [0,4] rfl;exact⟨s.data.toList.length-(i+1),by omega,i+1,I,O,by omega,fun j hj=>(by rcases Nat.lt_or_ge j i with h | h;exact he j h;obtain rfl:j=i:=(by omega);exact h19),rfl⟩
   ·intro h14;refine uO 8 ?_;intro a I;replace I:=I.kp [] rfl;refine rC 7 I ?_;clear I a;refine fx ?_;obtain rfl:i=s.data.toList.length:=by omega
    refine⟨?_,O⟩;rw[Ce (by omega) (by omega) he];rfl
theorem gj (W:World)(s:ByteArray)  : Calls Tryz.prog 242 #[.string s] W fun e w'=>e=.returned (.bool (mF s))∧Sat W w' []:=by
 refine bP Tryz.func242 [0] ?_;have O:=Sat.start W;refine uC 8 ?_;refine uF rfl (sQ _ s) ?_;rintro e w ⟨rfl,hT⟩;replace O:Sat _ _ _:=O.ag hT;clear hT;refine uO 1 ?_;refine u1 0 (aj rfl rfl) ?_;refine u1 7 (aj rfl rfl) ?_;refine u1 4 (aY rfl rfl) ?_;refine aU ?_;exact⟨rfl,O⟩
theorem xU (W:World)(a b:aS)  : Calls Tryz.prog 156 #[.agg #[.int .i64 a.rep,.int .i64 a.num],.agg #[.int .i64 b.rep,.int .i64 b.num]] W fun e w'=>e=.returned (.bool (nh a b))∧Sat W w' []:=by
 refine bP Tryz.func156 [0,1] ?_;have O:=Sat.start W;refine uC 2 ?_;refine uB rfl O ?_;clear O;intro b2 w O;refine uB rfl O ?_;clear O;intro b3 w O;refine uO 5 ?_;refine u1 0 (aa rfl bw) ?_;refine u1 0 (ld rfl) ?_;refine u1 0 (aa rfl bw) ?_;refine u1 0 (ld rfl) ?_;refine aM 0 0 (aq rfl rfl) ?_ ?_
 ·intro h9;refine uO 18 ?_;refine aU ?_;refine⟨?_,O.nil⟩;unfold nh
  congr 2
  rw[Bool.eq_iff_iff];simp only[Bool.and_eq_true,Bool.or_eq_true,decide_eq_true_eq,Bool.false_eq_true,false_iff,true_iff];omega
 ·intro h9;refine uO 1 ?_;refine u1 0 (aa rfl bw) ?_;refine u1 0 (ld rfl) ?_;refine u1 0 (aa rfl bw) ?_;refine u1 0 (ld rfl) ?_;refine aM 0 0 (aY rfl rfl) ?_ ?_
  ·intro h15;refine uO 1 ?_;refine u1 0 (aa rfl bN) ?_;refine u1 0 (ld rfl) ?_;refine u1 0 (aa rfl bN) ?_;refine u1 0 (ld rfl) ?_;refine u1 6 (aq rfl rfl) ?_;refine aU ?_;refine⟨?_,O.nil⟩;unfold nh
   congr 2
   rw[Bool.eq_iff_iff];simp only[Bool.and_eq_true,Bool.or_eq_true,decide_eq_true_eq,Bool.false_eq_true,false_iff,true_iff];omega
  ·intro h15;refine uO 12 ?_;refine aU ?_;refine⟨?_,O.nil⟩;unfold nh
   congr 2
   rw[Bool.eq_iff_iff];simp only[Bool.and_eq_true,Bool.or_eq_true,decide_eq_true_eq,Bool.false_eq_true,false_iff,true_iff];omega
theorem w8 (W:World)(a b:aS)  : Calls Tryz.prog 226 #[.agg #[.int .i64 a.rep,.int .i64 a.num],.agg #[.int .i64 b.rep,.int .i64 b.num]] W fun e w'=>e=.returned (.bool (nh a b))∧Sat W w' []:=by
 refine bP Tryz.func226 [0,1] ?_;have O:=Sat.start W;refine uC 2 ?_;refine uB rfl O ?_;clear O;intro b2 w O;refine uB rfl O ?_;clear O;intro b3 w O;refine uO 5 ?_;refine u1 0 (aa rfl bw) ?_;refine u1 0 (ld rfl) ?_;refine u1 0 (aa rfl bw) ?_;refine u1 0 (ld rfl) ?_;refine aM 0 0 (aq rfl rfl) ?_ ?_
 ·intro h9;refine uO 18 ?_;refine aU ?_;refine⟨?_,O.nil⟩;unfold nh
  congr 2
  rw[Bool.eq_iff_iff];simp only[Bool.and_eq_true,Bool.or_eq_true,decide_eq_true_eq,Bool.false_eq_true,false_iff,true_iff];omega
 ·intro h9;refine uO 1 ?_;refine u1 0 (aa rfl bw) ?_;refine u1 0 (ld rfl) ?_;refine u1 0 (aa rfl bw) ?_;refine u1 0 (ld rfl) ?_;refine aM 0 0 (aY rfl rfl) ?_ ?_
  ·intro h15;refine uO 1 ?_;refine u1 0 (aa rfl bN) ?_;refine u1 0 (ld rfl) ?_;refine u1 0 (aa rfl bN) ?_;refine u1 0 (ld rfl) ?_;refine u1 6 (aq rfl rfl) ?_;refine aU ?_;refine⟨?_,O.nil⟩;unfold nh
   congr 2
   rw[Bool.eq_iff_iff];simp only[Bool.and_eq_true,Bool.or_eq_true,decide_eq_true_eq,Bool.false_eq_true,false_iff,true_iff];omega
  ·intro h15;refine uO 12 ?_;refine aU ?_;refine⟨?_,O.nil⟩;unfold nh
   congr 2
   rw[Bool.eq_iff_iff];simp only[Bool.and_eq_true,Bool.or_eq_true,decide_eq_true_eq,Bool.false_eq_true,false_iff,true_iff];omega
theorem xw (W:World)(a b:aS)  : Calls Tryz.prog 264 #[.agg #[.int .i64 a.rep,.int .i64 a.num],.agg #[.int .i64 b.rep,.int .i64 b.num]] W fun e w'=>e=.returned (.bool (nh a b))∧Sat W w' []:=by
 refine bP Tryz.func264 [0,1] ?_;have O:=Sat.start W;refine uC 2 ?_;refine uB rfl O ?_;clear O;intro b2 w O;refine uB rfl O ?_;clear O;intro b3 w O;refine uO 5 ?_;refine u1 0 (aa rfl bw) ?_;refine u1 0 (ld rfl) ?_;refine u1 0 (aa rfl bw) ?_;refine u1 0 (ld rfl) ?_;refine aM 0 0 (aq rfl rfl) ?_ ?_
 ·intro h9;refine uO 18 ?_;refine aU ?_;refine⟨?_,O.nil⟩;unfold nh
  congr 2
  rw[Bool.eq_iff_iff];simp only[Bool.and_eq_true,Bool.or_eq_true,decide_eq_true_eq,Bool.false_eq_true,false_iff,true_iff];omega
 ·intro h9;refine uO 1 ?_;refine u1 0 (aa rfl bw) ?_;refine u1 0 (ld rfl) ?_;refine u1 0 (aa rfl bw) ?_;refine u1 0 (ld rfl) ?_;refine aM 0 0 (aY rfl rfl) ?_ ?_
  ·intro h15;refine uO 1 ?_;refine u1 0 (aa rfl bN) ?_;refine u1 0 (ld rfl) ?_;refine u1 0 (aa rfl bN) ?_;refine u1 0 (ld rfl) ?_;refine u1 6 (aq rfl rfl) ?_;refine aU ?_;refine⟨?_,O.nil⟩;unfold nh
   congr 2
   rw[Bool.eq_iff_iff];simp only[Bool.and_eq_true,Bool.or_eq_true,decide_eq_true_eq,Bool.false_eq_true,false_iff,true_iff];omega
  ·intro h15;refine uO 12 ?_;refine aU ?_;refine⟨?_,O.nil⟩;unfold nh
   congr 2
   rw[Bool.eq_iff_iff];simp only[Bool.and_eq_true,Bool.or_eq_true,decide_eq_true_eq,Bool.false_eq_true,false_iff,true_iff];omega
theorem vu (W:World)(a b:aS)  : Calls Tryz.prog 267 #[.agg #[.int .i64 a.rep,.int .i64 a.num],.agg #[.int .i64 b.rep,.int .i64 b.num]] W fun e w'=>e=.returned (.bool (nh a b))∧Sat W w' []:=by
 refine bP Tryz.func267 [0,1] ?_;have O:=Sat.start W;refine uC 2 ?_;refine uB rfl O ?_;clear O;intro b2 w O;refine uB rfl O ?_;clear O;intro b3 w O;refine uO 5 ?_;refine u1 0 (aa rfl bw) ?_;refine u1 0 (ld rfl) ?_;refine u1 0 (aa rfl bw) ?_;refine u1 0 (ld rfl) ?_;refine aM 0 0 (aq rfl rfl) ?_ ?_
 ·intro h9;refine uO 18 ?_;refine aU ?_;refine⟨?_,O.nil⟩;unfold nh
  congr 2
  rw[Bool.eq_iff_iff];simp only[Bool.and_eq_true,Bool.or_eq_true,decide_eq_true_eq,Bool.false_eq_true,false_iff,true_iff];omega
 ·intro h9;refine uO 1 ?_;refine u1 0 (aa rfl bw) ?_;refine u1 0 (ld rfl) ?_;refine u1 0 (aa rfl bw) ?_;refine u1 0 (ld rfl) ?_;refine aM 0 0 (aY rfl rfl) ?_ ?_
  ·intro h15;refine uO 1 ?_;refine u1 0 (aa rfl bN) ?_;refine u1 0 (ld rfl) ?_;refine u1 0 (aa rfl bN) ?_;refine u1 0 (ld rfl) ?_;refine u1 6 (aq rfl rfl) ?_;refine aU ?_;refine⟨?_,O.nil⟩;unfold nh
   congr 2
   rw[Bool.eq_iff_iff];simp only[Bool.and_eq_true,Bool.or_eq_true,decide_eq_true_eq,Bool.false_eq_true,false_iff,true_iff];omega
  ·intro h15;refine uO 12 ?_;refine aU ?_;refine⟨?_,O.nil⟩;unfold nh
   congr 2
   rw[Bool.eq_iff_iff];simp only[Bool.and_eq_true,Bool.or_eq_true,decide_eq_true_eq,Bool.false_eq_true,false_iff,true_iff];omega
theorem r5 (W:World)(e1:aS)  : Calls Tryz.prog 155 #[.agg #[.int .i64 e1.rep,.int .i64 e1.num,.string e1.cw,.int .i64 e1.qb]] W fun e w'=>e=.returned (.int .i64 (mE e1))∧Sat W w' []:=by
 refine bP Tryz.func155 [0] ?_;have O:=Sat.start W;refine uC 2 ?_;refine uB rfl O ?_;clear O;intro b1 w O;refine uO 7 ?_;refine u1 0 (aa rfl cg) ?_;refine u1 0 (aa rfl bw) ?_;refine u1 0 (ld rfl) ?_;refine aM 0 0 (aq rfl rfl) ?_ ?_
 ·intro h7;refine uO 18 ?_;refine aU ?_;refine⟨?_,O.nil⟩;unfold mE;rw[if_pos (by omega)]
 ·intro h7;refine uO 1 ?_;refine u1 0 (aa rfl cg) ?_;refine u1 0 (aa rfl bw) ?_;refine u1 0 (ld rfl) ?_;refine aM 0 0 (ek rfl rfl) ?_ ?_
  ·intro h12;refine uO 13 ?_;refine aU ?_;refine⟨?_,O.nil⟩;unfold mE;rw[if_pos (by omega)]
  ·intro h12;refine uO 7 ?_;refine u1 0 (aa rfl cg) ?_;refine u1 0 (aa rfl bN) ?_;refine u1 0 (ld rfl) ?_;refine aM 0 0 (aq rfl rfl) ?_ ?_
   ·intro h18;refine uO 15 ?_;intro a I;replace I:=I.kp [2] rfl;refine rC 3 I ?_;clear I a;refine aU ?_;refine⟨?_,O.nil⟩;unfold mE;rw[if_neg (by omega),if_pos (by omega)]
   ·intro h18;refine uO 1 ?_;refine u1 0 (aa rfl cg) ?_;refine u1 0 (aa rfl bN) ?_;refine u1 0 (ld rfl) ?_;refine aM 0 0 (db rfl rfl) ?_ ?_
    ·intro h23;refine uO 10 ?_;intro a I;replace I:=I.kp [2] rfl;refine rC 3 I ?_;clear I a;refine aU ?_;refine⟨?_,O.nil⟩;unfold mE;rw[if_neg (by omega),if_pos (by omega)]
    ·intro h23;refine uO 7 ?_;refine u1 0 (aa rfl jw) ?_;refine u1 0 (ld rfl) ?_;refine uF rfl (o9 _ e1.cw) ?_;rintro e w ⟨rfl,hT⟩;replace O:Sat _ _ _:=O.ag hT;clear hT;generalize h28:(mF e1.cw)=bb;cases bb
     ·refine u1 3 (aF rfl) ?_;intro a I;replace I:=I.kp [1,2,25] rfl;refine rC 9 I ?_;clear I a;refine aU ?_;refine⟨?_,O.nil⟩;unfold mE;rw[if_neg (by omega),if_neg (by omega),if_pos h28]
     ·refine u1 3 (aF rfl) ?_;intro a I;replace I:=I.kp [1,2,25] rfl;refine rC 3 I ?_;clear I a;refine u1 0 (aa rfl ib) ?_;refine u1 0 (ld rfl) ?_;refine aM 0 0 (aq rfl rfl) ?_ ?_
      ·intro h33;refine uO 17 ?_;refine aU ?_;refine⟨?_,O.nil⟩;unfold mE;rw[if_neg (by omega),if_neg (by omega),if_neg (by rw[h28];simp),if_pos (by omega)]
      ·intro h33;refine uO 1 ?_;refine u1 0 (aa rfl ib) ?_;refine u1 0 (ld rfl) ?_;refine aM 0 0 (db rfl rfl) ?_ ?_
       ·intro h37;refine uO 13 ?_;refine aU ?_;refine⟨?_,O.nil⟩;unfold mE;rw[if_neg (by omega),if_neg (by omega),if_neg (by rw[h28];simp),if_pos (by omega)]
       ·intro h37;refine uO 14 ?_;refine aU ?_;refine⟨?_,O.nil⟩;unfold mE;rw[if_neg (by omega),if_neg (by omega),if_neg (by rw[h28];simp),if_neg (by omega)]
theorem qs (W:World)(e1:aS)  : Calls Tryz.prog 225 #[.agg #[.int .i64 e1.rep,.int .i64 e1.num,.string e1.cw,.int .i64 e1.qb]] W fun e w'=>e=.returned (.int .i64 (mE e1))∧Sat W w' []:=by
 refine bP Tryz.func225 [0] ?_;have O:=Sat.start W;refine uC 2 ?_;refine uB rfl O ?_;clear O;intro b1 w O;refine uO 7 ?_;refine u1 0 (aa rfl cg) ?_;refine u1 0 (aa rfl bw) ?_;refine u1 0 (ld rfl) ?_;refine aM 0 0 (aq rfl rfl) ?_ ?_
 ·intro h7;refine uO 18 ?_;refine aU ?_;refine⟨?_,O.nil⟩;unfold mE;rw[if_pos (by omega)]
 ·intro h7;refine uO 1 ?_;refine u1 0 (aa rfl cg) ?_;refine u1 0 (aa rfl bw) ?_;refine u1 0 (ld rfl) ?_;refine aM 0 0 (ek rfl rfl) ?_ ?_
  ·intro h12;refine uO 13 ?_;refine aU ?_;refine⟨?_,O.nil⟩;unfold mE;rw[if_pos (by omega)]
  ·intro h12;refine uO 7 ?_;refine u1 0 (aa rfl cg) ?_;refine u1 0 (aa rfl bN) ?_;refine u1 0 (ld rfl) ?_;refine aM 0 0 (aq rfl rfl) ?_ ?_
   ·intro h18;refine uO 15 ?_;intro a I;replace I:=I.kp [2] rfl;refine rC 3 I ?_;clear I a;refine aU ?_;refine⟨?_,O.nil⟩;unfold mE;rw[if_neg (by omega),if_pos (by omega)]
   ·intro h18;refine uO 1 ?_;refine u1 0 (aa rfl cg) ?_;refine u1 0 (aa rfl bN) ?_;refine u1 0 (ld rfl) ?_;refine aM 0 0 (db rfl rfl) ?_ ?_
    ·intro h23;refine uO 10 ?_;intro a I;replace I:=I.kp [2] rfl;refine rC 3 I ?_;clear I a;refine aU ?_;refine⟨?_,O.nil⟩;unfold mE;rw[if_neg (by omega),if_pos (by omega)]
    ·intro h23;refine uO 7 ?_;refine u1 0 (aa rfl jw) ?_;refine u1 0 (ld rfl) ?_;refine uF rfl (gj _ e1.cw) ?_;rintro e w ⟨rfl,hT⟩;replace O:Sat _ _ _:=O.ag hT;clear hT;generalize h28:(mF e1.cw)=bb;cases bb
     ·refine u1 3 (aF rfl) ?_;intro a I;replace I:=I.kp [1,2,25] rfl;refine rC 9 I ?_;clear I a;refine aU ?_;refine⟨?_,O.nil⟩;unfold mE;rw[if_neg (by omega),if_neg (by omega),if_pos h28]
     ·refine u1 3 (aF rfl) ?_;intro a I;replace I:=I.kp [1,2,25] rfl;refine rC 3 I ?_;clear I a;refine u1 0 (aa rfl ib) ?_;refine u1 0 (ld rfl) ?_;refine aM 0 0 (aq rfl rfl) ?_ ?_
      ·intro h33;refine uO 17 ?_;refine aU ?_;refine⟨?_,O.nil⟩;unfold mE;rw[if_neg (by omega),if_neg (by omega),if_neg (by rw[h28];simp),if_pos (by omega)]
      ·intro h33;refine uO 1 ?_;refine u1 0 (aa rfl ib) ?_;refine u1 0 (ld rfl) ?_;refine aM 0 0 (db rfl rfl) ?_ ?_
       ·intro h37;refine uO 13 ?_;refine aU ?_;refine⟨?_,O.nil⟩;unfold mE;rw[if_neg (by omega),if_neg (by omega),if_neg (by rw[h28];simp),if_pos (by omega)]
       ·intro h37;refine uO 14 ?_;refine aU ?_;refine⟨?_,O.nil⟩;unfold mE;rw[if_neg (by omega),if_neg (by omega),if_neg (by rw[h28];simp),if_neg (by omega)]
theorem xT (W:World)(e1:aS)  : Calls Tryz.prog 266 #[.agg #[.int .i64 e1.rep,.int .i64 e1.num,.string e1.cw,.int .i64 e1.qb]] W fun e w'=>e=.returned (.bool (fW e1))∧Sat W w' []:=by
 refine bP Tryz.func266 [0] ?_;have O:=Sat.start W;refine uC 2 ?_;refine uB rfl O ?_;clear O;intro b1 w O;refine uO 5 ?_;refine u1 0 (aa rfl cg) ?_;refine u1 0 (lS (cs:=[_,_]) rfl) ?_;refine uF rfl (mV _ e1.rep e1.num) ?_;rintro e w ⟨rfl,hT⟩;replace O:Sat _ _ _:=O.ag hT;clear hT;generalize h5:(dG e1.rep e1.num)=bb;cases bb
 ·refine uO 19 ?_;refine aU ?_;refine⟨?_,O.nil⟩;unfold fW;rw[h5];rfl
 ·refine uO 1 ?_;refine u1 0 (aa rfl jw) ?_;refine u1 0 (ld rfl) ?_;refine jL rfl (gj _ e1.cw) ?_;rintro e w ⟨rfl,hT⟩;replace O:Sat _ _ _:=O.ag hT;clear hT;generalize h9:(mF e1.cw)=bb;cases bb
  ·refine uO 15 ?_;refine aU ?_;refine⟨?_,O.nil⟩;unfold fW;rw[h5,h9];rfl
  ·refine uO 2 ?_;refine u1 0 (aa rfl ib) ?_;refine u1 0 (ld rfl) ?_;refine aM 0 0 (ek rfl rfl) ?_ ?_
   ·intro h14;refine uO 2 ?_;refine u1 0 (aa rfl ib) ?_;refine u1 0 (ld rfl) ?_;refine u1 5 (dT rfl rfl) ?_;refine aU ?_;refine⟨?_,O.nil⟩;unfold fW;rw[h5,h9]
    congr 2
    rw[Bool.eq_iff_iff];simp;omega
   ·intro h14;refine uO 10 ?_;refine aU ?_;refine⟨?_,O.nil⟩;unfold fW;rw[h5,h9]
    congr 2
    rw[Bool.eq_iff_iff];simp;omega
theorem gB (W:World)(A:Option Addr)(c:Nat)(xs:List aS)(hR:fJ W A c xs)(hl:xs.length≤1000000000000):Calls Tryz.prog 120 #[.slice A (xs).length c] W fun e w'=>e=.returned (.int .i64 (if bZ xs=true then 0 else 1))∧Sat W w' []:=by
 refine bP Tryz.func120 [0] ?_;have O:=Sat.start W;refine uC 9 ?_;refine u1 4 (ak rfl bz) ?_;intro a I;refine wp_loop_ghost (fun (mm:Nat) a w=>∃(i:Nat),Ag a 32 [(0,.slice A (xs).length c),(5,.slice A (xs).length c),(6,.int .i64 ((xs.length:Nat):Int)),(7,.int .i64 ((i:Nat):Int))]∧Sat W w ([])∧(i≤xs.length)∧(∀j x,j<i→xs[j]?=some x→eC (ahead none xs j) x=true)∧mm=xs.length-i) xs.length ?_ ?_
 ·replace I:=I.kp [0,5,6,7] rfl;exact⟨0,I,O,(by omega),(by intro j x hj;omega),by omega⟩
 intro m a w hI;clear O I;obtain⟨i,I,O,hi,he,rfl⟩:=hI;refine rC 2 I ?_;clear I a;refine aM 0 0 (aq rfl rfl) ?_ ?_
 ·intro h8;refine uO 11 ?_;obtain⟨A_p,rfl⟩:∃q,A=some q:=(hR.sat O).ao (by omega);obtain⟨x,hx⟩:∃zz_,xs[i]?=some zz_:=⟨_,List.getElem?_eq_getElem (by omega)⟩;refine u1 0 (ix rfl rfl bz dq) ?_;refine u1 0 (ax (cs:=mf x) rfl pg dq (fun j u e=>bI (hR.sat O) (cV hx j u e))) ?_;refine uN Cb O ?_;clear O;intro b4 w O;refine uO 1 ?_;refine uW (vs:=[_,_,_,_]) (cs':=[_,_,_,_]) rfl rfl dq O ?_;clear O;intro w O;refine uO 3 ?_;intro a I;refine bg [15] O (by kernel_rfl) ?_;replace O:=O.drew;refine X1 0 [] I rfl (by exact⟨[],O⟩) (fun w hT=>have O:=hT.sat;(ax (cs:=[_,_,_,_]) (I.ev rfl) pg dq (by exact O.aE (xs:=[_,_,_,_]) rfl))) ?_;clear I a;intro a I;refine aG 1 (by kernel_rfl) ?_;refine eF I rfl rfl HR rfl (r5 _ x) ?_
  clear I a;rintro e w ⟨rfl,hT⟩;replace O:Sat _ _ _:=O.ag hT;clear hT;refine⟨_,rfl,?_⟩;intro a I;refine⟨.inr fun _=>(by exact⟨[],O⟩),?_⟩;refine K.Gv 2 I pk rfl rfl rfl rfl (by kernel_rfl) (by kernel_rfl) (by kernel_rfl) (fun w=>(aD (I.ev rfl) (I.ev rfl))) ?_ ?_
  ·clear I a;intro h14;refine uX [3,4,5,6,7,8,9,10,11,12,13,14,15,16,17,18] ?_;intro a I;refine ah (by kernel_rfl) ?_ _;refine rE 13 I ?_;clear I a;refine aU ?_;have hok:fW x=false:=by rw[←jV];simpa using h14
   have hst:eC (ahead none xs i) x=false:=by unfold eC;rw[hok];rfl
   have hf:bZ xs=false:=dI hx hst;exact⟨by simp[hf],O.nil⟩
  ·clear I a;intro h14;refine uX [3,4] ?_;intro a I;refine K.D9 5 I pk rfl (aT I rfl rfl rfl) rfl rfl (by kernel_rfl) (by kernel_rfl) (by kernel_rfl) (fun w=>(db (I.ev rfl) (I.ev rfl))) ?_ ?_
   ·clear I a;intro h17;refine uX [6,7,8] ?_;refine bA 9 [] rfl (fun w=>(aI (sb rfl rfl) (show _=Value.int .i64 ((i-1:Nat):Int) from congrArg (Value.int .i64) (by omega)))) ?_;obtain⟨y,hy⟩:∃zz_,xs[i-1]?=some zz_:=⟨_,List.getElem?_eq_getElem (by omega)⟩;refine bA 10 [] rfl (fun w=>(ix rfl rfl bz dq)) ?_;refine bA 11 [] rfl (fun w=>(aw rfl cg)) ?_;refine cW 12 [] rfl (by exact⟨[],O⟩) (fun w hT=>have O:=hT.sat;(ax (cs:=[.int .i64 y.rep,.int .i64 y.num]) rfl nT gN (fun j u e=>lq (hR.sat O) (cV hy _ u (jA y j u e))))) ?_;refine bA 13 [] rfl (fun w=>(aa rfl cg)) ?_;refine cW 14 [] rfl (by exact⟨[],O⟩) (fun w hT=>have O:=hT.sat;(lS (cs:=[_,_]) rfl)) ?_;intro a I;refine aG 15 (by kernel_rfl) ?_;refine Fh I rfl (aT I rfl rfl rfl) rfl IW rfl (xU _ y x) ?_
    clear I a;rintro e w ⟨rfl,hT⟩;replace O:Sat _ _ _:=O.ag hT;clear hT;refine⟨_,rfl,?_⟩;intro a I;refine⟨.inl rfl,?_⟩;refine K.C7 16 I pk rfl (aT I rfl rfl rfl) rfl rfl (by kernel_rfl) (by kernel_rfl) (by kernel_rfl) (fun w=>(aF (I.ev rfl))) ?_ ?_
    ·clear I a;intro h28;intro a I;simp only[decide_eq_decide,decide_eq_true_eq,decide_eq_false_iff_not,Bool.not_eq_true',Bool.not_eq_false',bne_iff_ne,ne_eq,beq_iff_eq,Bool.not_eq_true,Bool.not_eq_false]at h28;refine rX [17,18] I ?_;clear I a;intro a I;refine ah (by kernel_rfl) ?_ _;refine rE 13 I ?_;clear I a;refine aU ?_;have hok:fW x=true:=by rw[←jV];simpa using h14
     have hst:eC (ahead none xs i) x=false:=by
      unfold eC ahead;rw[if_neg (by omega),hy,hok];simpa using h28
     have hf:bZ xs=false:=dI hx hst;exact⟨by simp[hf],O.nil⟩
    ·clear I a;intro h28;intro a I;simp only[decide_eq_decide,decide_eq_true_eq,decide_eq_false_iff_not,Bool.not_eq_true',Bool.not_eq_false',bne_iff_ne,ne_eq,beq_iff_eq,Bool.not_eq_true,Bool.not_eq_false]at h28;refine rX [17,18] I ?_;clear I a;intro a I;refine ah (by kernel_rfl) ?_ _;refine rE 6 I ?_;clear I a;refine u1 2 (ad rfl rfl) ?_;intro a I;replace I:=I.kp [0,5,6,7] rfl;have hok:fW x=true:=by rw[←jV];simpa using h14
     have hst:eC (ahead none xs i) x=true:=by
      unfold eC ahead;rw[if_neg (by omega),hy,hok];simpa using h28
     exact⟨xs.length-(i+1),by omega,i+1,I,O.nil,by omega,fun j z hj hz=>(by rcases Nat.lt_or_ge j i with h | h;exact he j z h hz;obtain rfl:j=i:=(by omega);rw[hx]at hz;cases hz;exact hst),rfl⟩
   ·clear I a;intro h17;refine uX [6,7,8,9,10,11,12,13,14,15,16,17,18] ?_;intro a I;refine ah (by kernel_rfl) ?_ _;refine rE 6 I ?_;clear I a;refine u1 2 (ad rfl rfl) ?_;intro a I;replace I:=I.kp [0,5,6,7] rfl;have hok:fW x=true:=by rw[←jV];simpa using h14
    have hst:eC (ahead none xs i) x=true:=by
     obtain rfl:i=0:=by omega
     unfold eC ahead;rw[hok];rfl
    exact⟨xs.length-(i+1),by omega,i+1,I,O.nil,by omega,fun j z hj hz=>(by rcases Nat.lt_or_ge j i with h | h;exact he j z h hz;obtain rfl:j=i:=(by omega);rw[hx]at hz;cases hz;exact hst),rfl⟩
 ·intro h8;refine uO 15 ?_;refine aU ?_;obtain rfl:i=xs.length:=by omega
  have hf:bZ xs=true:=df fun j x hx=>he j x (List.getElem?_eq_some_iff.1 hx).1 hx
  exact⟨by simp[hf],O.nil⟩
theorem vO (W:World)(A:Option Addr)(c:Nat)(xs:List aS)(hR:fJ W A c xs)(hl:xs.length≤1000000000000):Calls Tryz.prog 179 #[.slice A (xs).length c] W fun e w'=>e=.returned (.int .i64 (if bZ xs=true then 0 else 1))∧Sat W w' []:=by
 refine bP Tryz.func179 [0] ?_;have O:=Sat.start W;refine uC 12 ?_;intro a I;refine wp_loop_ghost (fun (mm:Nat) a w=>∃(i:Nat),Ag a 33 [(0,.slice A (xs).length c),(3,.int .i64 ((i:Nat):Int))]∧Sat W w ([])∧(i≤xs.length)∧(∀j x,j<i→xs[j]?=some x→eC (ahead none xs j) x=true)∧mm=xs.length-i) xs.length ?_ ?_
 ·replace I:=I.kp [0,3] rfl;exact⟨0,I,O,(by omega),(by intro j x hj;omega),by omega⟩
 intro m a w hI;clear O I;obtain⟨i,I,O,hi,he,rfl⟩:=hI;refine rC 5 I ?_;clear I a;refine u1 0 (ak rfl bz) ?_;refine aM 0 0 (aq rfl rfl) ?_ ?_
 ·intro h7;refine uO 12 ?_;obtain⟨A_p,rfl⟩:∃q,A=some q:=(hR.sat O).ao (by omega);obtain⟨x,hx⟩:∃zz_,xs[i]?=some zz_:=⟨_,List.getElem?_eq_getElem (by omega)⟩;refine u1 0 (ix rfl rfl bz dq) ?_;refine u1 0 (ax (cs:=mf x) rfl pg dq (fun j u e=>bI (hR.sat O) (cV hx j u e))) ?_;refine uF rfl (qs _ x) ?_;rintro e w ⟨rfl,hT⟩;replace O:Sat _ _ _:=O.ag hT;clear hT;refine aM 0 0 (aD rfl rfl) ?_ ?_
  ·intro h15;refine uO 15 ?_;refine aU ?_;have hok:fW x=false:=by rw[←jV];simpa using h15
   have hst:eC (ahead none xs i) x=false:=by unfold eC;rw[hok];rfl
   have hf:bZ xs=false:=dI hx hst;exact⟨by simp[hf],O.nil⟩
  ·intro h15;refine uO 6 ?_;intro a I;refine bg [14] O (by kernel_rfl) ?_;replace O:=O.drew;refine rX [0] I ?_;clear I a;intro a I;refine K.Gv 1 I pk rfl rfl rfl rfl (by kernel_rfl) (by kernel_rfl) (by kernel_rfl) (fun w=>(db (I.ev rfl) (I.ev rfl))) ?_ ?_
   ·clear I a;intro h17;refine uX [2,3,4] ?_;refine bA 5 [] rfl (fun w=>(aI (sb rfl rfl) (show _=Value.int .i64 ((i-1:Nat):Int) from congrArg (Value.int .i64) (by omega)))) ?_;obtain⟨y,hy⟩:∃zz_,xs[i-1]?=some zz_:=⟨_,List.getElem?_eq_getElem (by omega)⟩
    refine bA 6 [] rfl (fun w=>(ix rfl rfl bz dq)) ?_;refine bA 7 [] rfl (fun w=>(aw rfl cg)) ?_;refine cW 8 [9,10] rfl (by exact⟨[],O⟩) (fun w hT=>have O:=hT.sat;(ax (cs:=[.int .i64 y.rep,.int .i64 y.num]) rfl nT gN (fun j u e=>lq (hR.sat O) (cV hy _ u (jA y j u e))))) ?_;refine bA 11 [] rfl (fun w=>(ix rfl rfl bz dq)) ?_;refine bA 12 [] rfl (fun w=>(aw rfl cg)) ?_;refine cW 13 [] rfl (by exact⟨[],O⟩) (fun w hT=>have O:=hT.sat;(ax (cs:=[.int .i64 x.rep,.int .i64 x.num]) rfl nT gN (fun j u e=>lq (hR.sat O) (cV hx _ u (jA x j u e))))) ?_;intro a I;refine aG 14 (by kernel_rfl) ?_;refine Fh I rfl (aT I rfl rfl rfl) rfl HU rfl (w8 _ y x) ?_;clear I a;rintro e w ⟨rfl,hT⟩;replace O:Sat _ _ _:=O.ag hT;clear hT;refine⟨_,rfl,?_⟩;intro a I
    refine⟨.inl rfl,?_⟩;refine K.C7 15 I pk rfl (aT I rfl rfl rfl) rfl rfl (by kernel_rfl) (by kernel_rfl) (by kernel_rfl) (fun w=>(aF (I.ev rfl))) ?_ ?_
    ·clear I a;intro h31;intro a I;simp only[decide_eq_decide,decide_eq_true_eq,decide_eq_false_iff_not,Bool.not_eq_true',Bool.not_eq_false',bne_iff_ne,ne_eq,beq_iff_eq,Bool.not_eq_true,Bool.not_eq_false]at h31;refine rX [16] I ?_;clear I a;intro a I;refine ah (by kernel_rfl) ?_ _;refine rE 13 I ?_;clear I a;refine aU ?_;have hok:fW x=true:=by rw[←jV];simpa using h15
     have hst:eC (ahead none xs i) x=false:=by
      unfold eC ahead;rw[if_neg (by omega),hy,hok];simpa using h31
     have hf:bZ xs=false:=dI hx hst;exact⟨by simp[hf],O.nil⟩
    ·clear I a;intro h31;intro a I;simp only[decide_eq_decide,decide_eq_true_eq,decide_eq_false_iff_not,Bool.not_eq_true',Bool.not_eq_false',bne_iff_ne,ne_eq,beq_iff_eq,Bool.not_eq_true,Bool.not_eq_false]at h31;refine rX [16] I ?_;clear I a;intro a I;refine ah (by kernel_rfl) ?_ _;refine rE 7 I ?_;clear I a;refine u1 2 (ad rfl rfl) ?_;intro a I;replace I:=I.kp [0,3] rfl;have hok:fW x=true:=by rw[←jV];simpa using h15
     have hst:eC (ahead none xs i) x=true:=by
      unfold eC ahead;rw[if_neg (by omega),hy,hok];simpa using h31
     exact⟨xs.length-(i+1),by omega,i+1,I,O.nil,by omega,fun j z hj hz=>(by rcases Nat.lt_or_ge j i with h | h;exact he j z h hz;obtain rfl:j=i:=(by omega);rw[hx]at hz;cases hz;exact hst),rfl⟩
   ·clear I a;intro h17;refine uX [2,3,4,5,6,7,8,9,10,11,12,13,14,15,16] ?_;intro a I;refine ah (by kernel_rfl) ?_ _;refine rE 7 I ?_;clear I a;refine u1 2 (ad rfl rfl) ?_;intro a I;replace I:=I.kp [0,3] rfl;have hok:fW x=true:=by rw[←jV];simpa using h15
    have hst:eC (ahead none xs i) x=true:=by
     obtain rfl:i=0:=by omega
     unfold eC ahead;rw[hok];rfl
    exact⟨xs.length-(i+1),by omega,i+1,I,O.nil,by omega,fun j z hj hz=>(by rcases Nat.lt_or_ge j i with h | h;exact he j z h hz;obtain rfl:j=i:=(by omega);rw[hx]at hz;cases hz;exact hst),rfl⟩
 ·intro h7;refine uO 14 ?_;refine aU ?_;obtain rfl:i=xs.length:=by omega
  have hf:bZ xs=true:=df fun j x hx=>he j x (List.getElem?_eq_some_iff.1 hx).1 hx
  exact⟨by simp[hf],O.nil⟩
theorem tv (W:World)(A:Option Addr)(c:Nat)(xs:List aS)(hR:fJ W A c xs)(hl:xs.length≤1000000000000):Calls Tryz.prog 230 #[.slice A (xs).length c] W fun e w'=>e=.returned (.bool (bZ xs))∧Sat W w' []:=by
 refine bP Tryz.func230 [0] ?_;have O:=Sat.start W;refine uC 12 ?_;intro a I;refine wp_loop_ghost (fun (mm:Nat) a w=>∃(i:Nat),Ag a 59 [(0,.slice A (xs).length c),(3,.int .i64 ((i:Nat):Int))]∧Sat W w ([])∧(i≤xs.length)∧(∀j x,j<i→xs[j]?=some x→eC (ahead none xs j) x=true)∧mm=xs.length-i) xs.length ?_ ?_
 ·replace I:=I.kp [0,3] rfl;exact⟨0,I,O,(by omega),(by intro j x hj;omega),by omega⟩
 intro m a w hI;clear O I;obtain⟨i,I,O,hi,he,rfl⟩:=hI;refine rC 5 I ?_;clear I a;refine u1 0 (ak rfl bz) ?_;refine aM 0 0 (aq rfl rfl) ?_ ?_
 ·intro h7;refine uO 12 ?_;obtain⟨A_p,rfl⟩:∃q,A=some q:=(hR.sat O).ao (by omega);obtain⟨x,hx⟩:∃zz_,xs[i]?=some zz_:=⟨_,List.getElem?_eq_getElem (by omega)⟩;refine u1 0 (ix rfl rfl bz dq) ?_;refine u1 0 (aw rfl cg) ?_;refine u1 0 (ax (cs:=[.int .i64 x.rep,.int .i64 x.num]) rfl nT gN (fun j u e=>lq (hR.sat O) (cV hx _ u (jA x j u e)))) ?_;refine uF rfl (mV _ x.rep x.num) ?_;rintro e w ⟨rfl,hT⟩;replace O:Sat _ _ _:=O.ag hT;clear hT;generalize h15:(dG x.rep x.num)=bb;cases bb
  ·refine u1 40 (aF rfl) ?_;refine aU ?_
   have hok:fW x=false:=by
    unfold fW;rw[h15];rfl
   have hst:eC (ahead none xs i) x=false:=by unfold eC;rw[hok];rfl
   have hf:bZ xs=false:=dI hx hst;exact⟨by simp[hf],O.nil⟩
  ·refine u1 3 (aF rfl) ?_;refine u1 0 (ix rfl rfl bz dq) ?_;refine u1 0 (aw rfl jw) ?_;refine u1 0 (an rfl DK (bI (hR.sat O) (cV hx 2 _ rfl))) ?_;refine jL rfl (gj _ x.cw) ?_;rintro e w ⟨rfl,hT⟩;replace O:Sat _ _ _:=O.ag hT;clear hT;generalize h23:(mF x.cw)=bb;cases bb
   ·refine u1 32 (aF rfl) ?_;refine aU ?_
    have hok:fW x=false:=by
     unfold fW;rw[h15,h23];rfl
    have hst:eC (ahead none xs i) x=false:=by unfold eC;rw[hok];rfl
    have hf:bZ xs=false:=dI hx hst;exact⟨by simp[hf],O.nil⟩
   ·refine u1 4 (aF rfl) ?_;refine u1 0 (ix rfl rfl bz dq) ?_;refine u1 0 (aw rfl ib) ?_;refine u1 0 (an rfl dE (bI (hR.sat O) (cV hx 3 _ rfl))) ?_;refine aM 0 0 (aq rfl rfl) ?_ ?_
    ·intro h32;refine uO 24 ?_;refine aU ?_
     have hok:fW x=false:=by
      unfold fW;rw[h15,h23];simp<;>omega
     have hst:eC (ahead none xs i) x=false:=by unfold eC;rw[hok];rfl
     have hf:bZ xs=false:=dI hx hst;exact⟨by simp[hf],O.nil⟩
    ·intro h32;refine uO 4 ?_;refine u1 0 (ix rfl rfl bz dq) ?_;refine u1 0 (aw rfl ib) ?_;refine u1 0 (an rfl dE (bI (hR.sat O) (cV hx 3 _ rfl))) ?_;refine aM 0 0 (db rfl rfl) ?_ ?_
     ·intro h40;refine uO 16 ?_;refine aU ?_
      have hok:fW x=false:=by
       unfold fW;rw[h15,h23];simp<;>omega
      have hst:eC (ahead none xs i) x=false:=by unfold eC;rw[hok];rfl
      have hf:bZ xs=false:=dI hx hst;exact⟨by simp[hf],O.nil⟩
     ·intro h40;refine uO 7 ?_;intro a I;refine bg [14] O (by kernel_rfl) ?_;replace O:=O.drew;refine rX [0] I ?_;clear I a;intro a I;refine K.Gv 1 I pk rfl rfl rfl rfl (by kernel_rfl) (by kernel_rfl) (by kernel_rfl) (fun w=>(db (I.ev rfl) (I.ev rfl))) ?_ ?_
      ·clear I a;intro h43;refine uX [2,3,4] ?_;refine bA 5 [] rfl (fun w=>(aI (sb rfl rfl) (show _=Value.int .i64 ((i-1:Nat):Int) from congrArg (Value.int .i64) (by omega)))) ?_;obtain⟨y,hy⟩:∃zz_,xs[i-1]?=some zz_:=⟨_,List.getElem?_eq_getElem (by omega)⟩
       refine bA 6 [] rfl (fun w=>(ix rfl rfl bz dq)) ?_;refine bA 7 [] rfl (fun w=>(aw rfl cg)) ?_;refine cW 8 [9,10] rfl (by exact⟨[],O⟩) (fun w hT=>have O:=hT.sat;(ax (cs:=[.int .i64 y.rep,.int .i64 y.num]) rfl nT gN (fun j u e=>lq (hR.sat O) (cV hy _ u (jA y j u e))))) ?_;refine bA 11 [] rfl (fun w=>(ix rfl rfl bz dq)) ?_;refine bA 12 [] rfl (fun w=>(aw rfl cg)) ?_;refine cW 13 [] rfl (by exact⟨[],O⟩) (fun w hT=>have O:=hT.sat;(ax (cs:=[.int .i64 x.rep,.int .i64 x.num]) rfl nT gN (fun j u e=>lq (hR.sat O) (cV hx _ u (jA x j u e))))) ?_;intro a I;refine aG 14 (by kernel_rfl) ?_;refine Fh I rfl (aT I rfl rfl rfl) rfl IE rfl (xw _ y x) ?_;clear I a;rintro e w ⟨rfl,hT⟩;replace O:Sat _ _ _:=O.ag hT;clear hT;refine⟨_,rfl,?_⟩;intro a I
       refine⟨.inl rfl,?_⟩;refine K.C7 15 I pk rfl (aT I rfl rfl rfl) rfl rfl (by kernel_rfl) (by kernel_rfl) (by kernel_rfl) (fun w=>(aF (I.ev rfl))) ?_ ?_
       ·clear I a;intro h57;intro a I;simp only[decide_eq_decide,decide_eq_true_eq,decide_eq_false_iff_not,Bool.not_eq_true',Bool.not_eq_false',bne_iff_ne,ne_eq,beq_iff_eq,Bool.not_eq_true,Bool.not_eq_false]at h57;refine rX [16] I ?_;clear I a;intro a I;refine ah (by kernel_rfl) ?_ _;refine rE 13 I ?_;clear I a;refine aU ?_
        have hok:fW x=true:=by
         unfold fW;rw[h15,h23];simp<;>omega
        have hst:eC (ahead none xs i) x=false:=by
         unfold eC ahead;rw[if_neg (by omega),hy,hok];simpa using h57
        have hf:bZ xs=false:=dI hx hst;exact⟨by simp[hf],O.nil⟩
       ·clear I a;intro h57;intro a I;simp only[decide_eq_decide,decide_eq_true_eq,decide_eq_false_iff_not,Bool.not_eq_true',Bool.not_eq_false',bne_iff_ne,ne_eq,beq_iff_eq,Bool.not_eq_true,Bool.not_eq_false]at h57;refine rX [16] I ?_;clear I a;intro a I;refine ah (by kernel_rfl) ?_ _;refine rE 7 I ?_;clear I a;refine u1 2 (ad rfl rfl) ?_;intro a I;replace I:=I.kp [0,3] rfl
        have hok:fW x=true:=by
         unfold fW;rw[h15,h23];simp<;>omega
        have hst:eC (ahead none xs i) x=true:=by
         unfold eC ahead;rw[if_neg (by omega),hy,hok];simpa using h57
        exact⟨xs.length-(i+1),by omega,i+1,I,O.nil,by omega,fun j z hj hz=>(by rcases Nat.lt_or_ge j i with h | h;exact he j z h hz;obtain rfl:j=i:=(by omega);rw[hx]at hz;cases hz;exact hst),rfl⟩
      ·clear I a;intro h43;refine uX [2,3,4,5,6,7,8,9,10,11,12,13,14,15,16] ?_;intro a I;refine ah (by kernel_rfl) ?_ _;refine rE 7 I ?_;clear I a;refine u1 2 (ad rfl rfl) ?_;intro a I;replace I:=I.kp [0,3] rfl
       have hok:fW x=true:=by
        unfold fW;rw[h15,h23];simp<;>omega
       have hst:eC (ahead none xs i) x=true:=by
        obtain rfl:i=0:=by omega
        unfold eC ahead;rw[hok];rfl
       exact⟨xs.length-(i+1),by omega,i+1,I,O.nil,by omega,fun j z hj hz=>(by rcases Nat.lt_or_ge j i with h | h;exact he j z h hz;obtain rfl:j=i:=(by omega);rw[hx]at hz;cases hz;exact hst),rfl⟩
 ·intro h7;refine uO 14 ?_;refine aU ?_;obtain rfl:i=xs.length:=by omega
  have hf:bZ xs=true:=df fun j x hx=>he j x (List.getElem?_eq_some_iff.1 hx).1 hx
  exact⟨by simp[hf],O.nil⟩
theorem tX (W:World)(A:Option Addr)(c:Nat)(xs:List aS)(hR:fJ W A c xs)(hl:xs.length≤1000000000000):Calls Tryz.prog 234 #[.slice A (xs).length c] W fun e w'=>e=.returned (.bool (bZ xs))∧Sat W w' []:=by
 refine bP Tryz.func234 [0] ?_;have O:=Sat.start W;refine uC 12 ?_;intro a I;refine wp_loop_ghost (fun (mm:Nat) a w=>∃(i:Nat),Ag a 35 [(0,.slice A (xs).length c),(3,.int .i64 ((i:Nat):Int))]∧Sat W w ([])∧(i≤xs.length)∧(∀j x,j<i→xs[j]?=some x→eC (ahead none xs j) x=true)∧mm=xs.length-i) xs.length ?_ ?_
 ·replace I:=I.kp [0,3] rfl;exact⟨0,I,O,(by omega),(by intro j x hj;omega),by omega⟩
 intro m a w hI;clear O I;obtain⟨i,I,O,hi,he,rfl⟩:=hI;refine rC 5 I ?_;clear I a;refine u1 0 (ak rfl bz) ?_;refine aM 0 0 (aq rfl rfl) ?_ ?_
 ·intro h7;refine uO 8 ?_;intro a I;refine bg [21] O (by kernel_rfl) ?_;replace O:=O.drew;refine rX [0,1] I ?_;clear I a;obtain⟨A_p,rfl⟩:∃q,A=some q:=(hR.sat O).ao (by omega);obtain⟨x,hx⟩:∃zz_,xs[i]?=some zz_:=⟨_,List.getElem?_eq_getElem (by omega)⟩;refine bA 2 [] rfl (fun w=>(ix rfl rfl bz dq)) ?_;refine cW 3 [] rfl (by exact⟨[],O⟩) (fun w hT=>have O:=hT.sat;(ax (cs:=mf x) rfl pg dq (fun j u e=>bI (hR.sat O) (cV hx j u e)))) ?_;intro a I;refine aG 4 (by kernel_rfl) ?_;refine eF I rfl rfl Iy rfl (xT _ x) ?_;clear I a;rintro e w ⟨rfl,hT⟩;replace O:Sat _ _ _:=O.ag hT;clear hT;refine⟨_,rfl,?_⟩;intro a I;refine⟨.inr fun _=>(by exact⟨[],O⟩),?_⟩;refine K.JY 5 I pk rfl rfl rfl rfl (by kernel_rfl) (by kernel_rfl) (by kernel_rfl) (fun w=>(aF (I.ev rfl))) ?_ ?_
  ·clear I a;intro h15;intro a I;simp only[decide_eq_decide,decide_eq_true_eq,decide_eq_false_iff_not,Bool.not_eq_true',Bool.not_eq_false',bne_iff_ne,ne_eq,beq_iff_eq,Bool.not_eq_true,Bool.not_eq_false]at h15;refine rX [6,7,8,9,10,11,12,13,14,15,16,17,18,19,20,21,22,23,24] I ?_;clear I a;intro a I;refine ah (by kernel_rfl) ?_ _;refine rE 13 I ?_;clear I a;refine aU ?_;have hok:fW x=false:=by simpa using h15
   have hst:eC (ahead none xs i) x=false:=by unfold eC;rw[hok];rfl
   have hf:bZ xs=false:=dI hx hst;exact⟨by simp[hf],O.nil⟩
  ·clear I a;intro h15;intro a I;simp only[decide_eq_decide,decide_eq_true_eq,decide_eq_false_iff_not,Bool.not_eq_true',Bool.not_eq_false',bne_iff_ne,ne_eq,beq_iff_eq,Bool.not_eq_true,Bool.not_eq_false]at h15;refine rX [6,7] I ?_;clear I a;intro a I;refine K.D9 8 I pk rfl (aT I rfl rfl rfl) rfl rfl (by kernel_rfl) (by kernel_rfl) (by kernel_rfl) (fun w=>(db (I.ev rfl) (I.ev rfl))) ?_ ?_
   ·clear I a;intro h18;refine uX [9,10,11] ?_;refine bA 12 [] rfl (fun w=>(aI (sb rfl rfl) (show _=Value.int .i64 ((i-1:Nat):Int) from congrArg (Value.int .i64) (by omega)))) ?_;obtain⟨y,hy⟩:∃zz_,xs[i-1]?=some zz_:=⟨_,List.getElem?_eq_getElem (by omega)⟩
    refine bA 13 [] rfl (fun w=>(ix rfl rfl bz dq)) ?_;refine bA 14 [] rfl (fun w=>(aw rfl cg)) ?_;refine cW 15 [16,17] rfl (by exact⟨[],O⟩) (fun w hT=>have O:=hT.sat;(ax (cs:=[.int .i64 y.rep,.int .i64 y.num]) rfl nT gN (fun j u e=>lq (hR.sat O) (cV hy _ u (jA y j u e))))) ?_;refine bA 18 [] rfl (fun w=>(ix rfl rfl bz dq)) ?_;refine bA 19 [] rfl (fun w=>(aw rfl cg)) ?_;refine cW 20 [] rfl (by exact⟨[],O⟩) (fun w hT=>have O:=hT.sat;(ax (cs:=[.int .i64 x.rep,.int .i64 x.num]) rfl nT gN (fun j u e=>lq (hR.sat O) (cV hx _ u (jA x j u e))))) ?_;intro a I;refine aG 21 (by kernel_rfl) ?_;refine Fh I rfl (aT I rfl rfl rfl) rfl Ik rfl (vu _ y x) ?_;clear I a;rintro e w ⟨rfl,hT⟩;replace O:Sat _ _ _:=O.ag hT;clear hT;refine⟨_,rfl,?_⟩;intro a I
    refine⟨.inl rfl,?_⟩;refine K.C7 22 I pk rfl (aT I rfl rfl rfl) rfl rfl (by kernel_rfl) (by kernel_rfl) (by kernel_rfl) (fun w=>(aF (I.ev rfl))) ?_ ?_
    ·clear I a;intro h32;intro a I;simp only[decide_eq_decide,decide_eq_true_eq,decide_eq_false_iff_not,Bool.not_eq_true',Bool.not_eq_false',bne_iff_ne,ne_eq,beq_iff_eq,Bool.not_eq_true,Bool.not_eq_false]at h32;refine rX [23,24] I ?_;clear I a;intro a I;refine ah (by kernel_rfl) ?_ _;refine rE 13 I ?_;clear I a;refine aU ?_;have hok:fW x=true:=by simpa using h15
     have hst:eC (ahead none xs i) x=false:=by
      unfold eC ahead;rw[if_neg (by omega),hy,hok];simpa using h32
     have hf:bZ xs=false:=dI hx hst;exact⟨by simp[hf],O.nil⟩
    ·clear I a;intro h32;intro a I;simp only[decide_eq_decide,decide_eq_true_eq,decide_eq_false_iff_not,Bool.not_eq_true',Bool.not_eq_false',bne_iff_ne,ne_eq,beq_iff_eq,Bool.not_eq_true,Bool.not_eq_false]at h32;refine rX [23,24] I ?_;clear I a;intro a I;refine ah (by kernel_rfl) ?_ _;refine rE 7 I ?_;clear I a;refine u1 2 (ad rfl rfl) ?_;intro a I;replace I:=I.kp [0,3] rfl;have hok:fW x=true:=by simpa using h15
     have hst:eC (ahead none xs i) x=true:=by
      unfold eC ahead;rw[if_neg (by omega),hy,hok];simpa using h32
     exact⟨xs.length-(i+1),by omega,i+1,I,O.nil,by omega,fun j z hj hz=>(by rcases Nat.lt_or_ge j i with h | h;exact he j z h hz;obtain rfl:j=i:=(by omega);rw[hx]at hz;cases hz;exact hst),rfl⟩
   ·clear I a;intro h18;refine uX [9,10,11,12,13,14,15,16,17,18,19,20,21,22,23,24] ?_;intro a I;refine ah (by kernel_rfl) ?_ _;refine rE 7 I ?_;clear I a;refine u1 2 (ad rfl rfl) ?_;intro a I;replace I:=I.kp [0,3] rfl;have hok:fW x=true:=by simpa using h15
    have hst:eC (ahead none xs i) x=true:=by
     obtain rfl:i=0:=by omega
     unfold eC ahead;rw[hok];rfl
    exact⟨xs.length-(i+1),by omega,i+1,I,O.nil,by omega,fun j z hj hz=>(by rcases Nat.lt_or_ge j i with h | h;exact he j z h hz;obtain rfl:j=i:=(by omega);rw[hx]at hz;cases hz;exact hst),rfl⟩
 ·intro h7;refine uO 14 ?_;refine aU ?_;obtain rfl:i=xs.length:=by omega
  have hf:bZ xs=true:=df fun j x hx=>he j x (List.getElem?_eq_some_iff.1 hx).1 hx
  exact⟨by simp[hf],O.nil⟩
end Go.Proofs.YtkjabaihpkbfhaaGreat.Wk
namespace Go.Proofs.YtkjabaihpkbfhaaGreat.K
open Go Go.RowKit
variable {ds:List Deferred}
theorem uk (zc:List Value)(h:0<zc.length):∀n:Nat,(List.range (n * zc.length)).map (fun i=>zc.toArray[i % zc.length]!)=(List.replicate n zc).flatten
 | 0=>by simp
 | n + 1 => by
   have hp:(List.range zc.length).map (fun i=>zc.toArray[i % zc.length]!)=zc:=by
    apply List.ext_getElem?;intro i;rw[List.getElem?_map];rcases Nat.lt_or_ge i zc.length with hi | hi
    ·
     rw[List.getElem?_range hi,List.getElem?_eq_getElem hi];simp[Nat.mod_eq_of_lt hi,hi]
    ·
     rw[List.getElem?_eq_none (by simpa using hi),List.getElem?_eq_none hi];rfl
   rw[Nat.add_mul,Nat.one_mul,Nat.add_comm (n * zc.length),List.range_add,List.map_append,hp,List.map_map];rw[show ((fun i=>zc.toArray[i % zc.length]!) ∘ fun x=>zc.length+x)=fun i=>zc.toArray[i % zc.length]! from by funext i;simp];rw[uk zc h n,List.replicate_succ,List.flatten_cons]
section
variable {P:Program} {w:World} {ρ:Operand→Value} {dd:Option Tmp} {ty:TypeId} {ps:String} {af:Array Edge} {g:Option (Nat×Bool)} {e t:TypeId} {x y:Operand}
theorem CA {z:Value}{zc:List Value}{by_ sz n:Nat}(hx:ρ x=.int .i64 n)(hy:ρ y=.int .i64 n)(ht:P.underlying t=some (.slice e))(hi:dL P e=some (some z,sz,by_))(hz:z.cells=zc.toArray)(hsz0:zc.length=sz)(hpos:0<sz)(hn:by_ * n≤140737488355328)(hn2:n≤140737488355328) :
 (execOp ρ ⟨dd,.makeSlice t x y,ty,ps,af,g⟩).run P w=.ok (.value (.slice (some ⟨w.heap.size,0,none⟩) n n)) (w.alloc (.cells (List.replicate n zc).flatten.toArray e)):=by
 obtain⟨i,hi',hq⟩:=Option.map_eq_some_iff.1 hi;simp only[Prod.mk.injEq]at hq;obtain⟨hz',hsz,hb⟩:=hq;have hw:IntKind.i64.wrap (n:Int)=n:=gD (by simp[IntKind.min,IntKind.signed,IntKind.bits];try omega) (by simp[IntKind.max,IntKind.signed,IntKind.bits];try omega)
 have h1:¬(281474976710656<(by_:Int) * (n:Int)):=by
  rw[show (by_:Int) * (n:Int)=((by_ * n:Nat):Int) from by simp];omega
 have h3:¬((n:Int)<0):=by omega
 have harr:((Array.range (n * sz)).map fun x=>z.cells[x % z.cells.size]!)=(List.replicate n zc).flatten.toArray:=by
  have:=uk zc (by omega) n;apply Array.ext';rw[←this,hz,←hsz0];simp
 have hN:∃N:Int,N=(n:Int):=⟨_,rfl⟩;obtain⟨N,hN⟩:=hN;have hNn:N.toNat=n:=by omega
 rw[←hN]at hx hy hw h1 h3;have h4:¬(n * by_ > 140737488355328):=by rw[Nat.mul_comm];omega
 simp[execOp,hx,hy,Instr.makeSlice,run_underlying ht,asInt,typeInfo,sizeOf,zeroValue,hi',hsz,hb,hz',hw,h1,h3,hNn,askRoom,roomBytes,newRow,newObj,Sem.run,go_sem]
 by_cases h0:n=0
 ·
  subst h0;rw[if_pos (Nat.zero_mul _)]
  congr 2
  rw[Nat.zero_mul];simp
 ·
  rw[if_neg (Nat.mul_ne_zero h0 (by omega))]
  congr 1
  show w.alloc (.cells (Array.map (fun x=>z.cells[x % z.cells.size]!) (Array.range (n * sz))) e)=_;rw[harr]
end
section
variable {P:Program} {ops:Array Oper} {a:Act} {n:Nat} {E:Env} {w W:World} {rest:List Oper} {d:Nat} {Q:Exit→Act→World→Prop} {L:List As} {e t:TypeId} {ty:TypeId} {ps:String} {af:Array Edge} {x y:Operand}
theorem JM {z:Value}{zc:List Value}{by_ m sz:Nat}(I:Ag a n E ds)(hn:Nat.blt d n=true)(hx:fH E x=some (.int .i64 m))(hy:fH E y=some (.int .i64 m))(ht:P.underlying t=some (.slice e))(hi:dL P e=some (some z,sz,by_))(hz:z.cells=zc.toArray)(hsz0:zc.length=sz)(hpos:0<sz)(h1:by_ * m≤140737488355328)(h2:m≤140737488355328)
 (s:Sat W w L) (k:∀b w',Sat W w' (row e sz (.slice (some ⟨b,0,none⟩) m m) m (List.replicate m zc).flatten::L)→∀a',Ag a' n ((d,.slice (some ⟨b,0,none⟩) m m)::E) ds→wpList P ops Q rest a' w'):wpList P ops Q (⟨some d,.makeSlice t x y,ty,ps,af,none⟩::rest) a w:=
 yi I rfl rfl hn (CA (I.ev hx) (I.ev hy) ht hi hz hsz0 hpos h1 h2) (k _ _ (Sat.GX (s.alloc _) (by simp[hsz0]) (by omega)))
end
end Go.Proofs.YtkjabaihpkbfhaaGreat.K
namespace Go.Proofs.YtkjabaihpkbfhaaGreat.Wk
open Go Go.RowKit Go.Proofs.YtkjabaihpkbfhaaGreat Go.Proofs.YtkjabaihpkbfhaaGreat.K Go.Proofs.YtkjabaihpkbfhaaGreat.T
theorem CV (xs:List aS):(List.replicate xs.length [Value.int .i64 0,Value.int .i64 0]).flatten=(((xs.take 0).map aS.dot)++List.replicate (xs.length-0) (⟨0,0⟩:gk)).flatMap p6:=by
 rw[List.take_zero,List.map_nil,List.nil_append,Nat.sub_zero,List.flatMap_def,List.map_replicate];rfl
theorem vb {α:Type}{enc:α→List Value}{k:Nat}(hk:∀x,(enc x).length=k):∀ {xs:List α} {i:Nat} (x:α),i<xs.length→(xs.flatMap enc).take (i * k)++enc x++(xs.flatMap enc).drop (i * k+k)=(xs.set i x).flatMap enc
 | [],i,x,h=>by simp at h
 | y :: xs, 0, x, h => by
   rw[List.flatMap_cons,List.set_cons_zero,List.flatMap_cons,Nat.zero_mul,List.take_zero,List.nil_append,Nat.zero_add,List.drop_append,List.drop_of_length_le (by rw[hk];exact Nat.le_refl _),List.nil_append,hk,Nat.sub_self,List.drop_zero]
 | y :: xs, i + 1, x, h => by
   have ih:=vb hk (xs:=xs) (i:=i) x (by simpa using h);have e1:(i+1) * k=k+i * k:=by rw[Nat.add_mul];omega
   rw[List.flatMap_cons,List.set_cons_succ,List.flatMap_cons,←ih,e1,List.take_append,List.drop_append,List.take_of_length_le (by rw[hk];omega),List.drop_of_length_le (by rw[hk];omega),hk,List.nil_append];rw[show k+i * k-k=i * k from by omega,show k+i * k+k-k=i * k+k from by omega];simp only[List.append_assoc]
theorem D8 {xs:List aS}{i:Nat}{x:aS}(hx:xs[i]?=some x):((((xs.take i).map aS.dot)++List.replicate (xs.length-i) (⟨0,0⟩:gk)).flatMap p6).take (i * 2)++[Value.int .i64 x.rep,Value.int .i64 x.num]++((((xs.take i).map aS.dot)++List.replicate (xs.length-i) (⟨0,0⟩:gk)).flatMap p6).drop (i * 2+[Value.int .i64 x.rep,Value.int .i64 x.num].length)=(((xs.take (i+1)).map aS.dot)++List.replicate (xs.length-(i+1)) (⟨0,0⟩:gk)).flatMap p6:=by
 have hi:=(List.getElem?_eq_some_iff.1 hx).1;have h:=vb (enc:=p6) (k:=2) tn (xs:=((xs.take i).map aS.dot)++List.replicate (xs.length-i) (⟨0,0⟩:gk)) (i:=i) x.dot (by simp;omega)
 have e:(((xs.take i).map aS.dot)++List.replicate (xs.length-i) (⟨0,0⟩:gk)).set i x.dot=((xs.take (i+1)).map aS.dot)++List.replicate (xs.length-(i+1)) (⟨0,0⟩:gk):=by
  rw[List.set_append_right _ _ (by simp;omega),aA hx,List.map_append,List.append_assoc]
  congr 1
  obtain⟨k,hk⟩:∃k,xs.length-i=k+1:=⟨xs.length-i-1,by omega⟩;rw[hk,show xs.length-(i+1)=k from by omega,List.replicate_succ,List.length_map,List.length_take,show i-min i xs.length=0 from by omega]
  rfl
 rw[←e,←h];rfl
theorem Ds (xs:List aS):((xs.take xs.length).map aS.dot)++List.replicate (xs.length-xs.length) (⟨0,0⟩:gk)=xs.map aS.dot:=by simp
theorem D6 (b i:Nat):Value.pointer (some ((⟨b,0,none⟩:Addr).add (((i:Nat):Int).toNat * 2)))=Value.pointer (some ⟨b,i * 2,none⟩):=by
 rw[Int.toNat_natCast];simp only[Addr.add,Nat.zero_add]
 split
 ·
  rename_i h;rw[h]
 ·
  rfl
theorem zU (W:World)(A:Option Addr)(c:Nat)(xs:List aS)(hR:fJ W A c xs)(hl:xs.length≤10000000000)(hE:bZ xs=true):Calls Tryz.prog 252 #[.slice A (xs).length c] W fun e w'=>∃q:PL,e=.returned (.tuple #[.agg #[.slice q.va q.d.vec.length q.vc,.slice q.ca q.d.ab.length q.cc],.int .i64 0])∧q.d=lX (xs.map aS.dot)∧Sat W w' [cN 3 q.va q.vc q.d.vec,bH 219 q.ca q.cc q.d.ab]:=by
 refine bP Tryz.func252 [0] ?_;have O:=Sat.start W;refine uC 2 ?_;refine uN dN O ?_;clear O;intro b2 w O;refine uO 7 ?_;refine uF rfl (gB _ A c xs (hR.sat O) (by omega)) ?_;rintro e w ⟨rfl,hT⟩;rw[if_pos hE];replace O:Sat _ _ _:=O.ag hT;clear hT;refine u1 8 (cQ (aD rfl rfl) (by omega)) ?_;refine u1 0 (ak rfl bz) ?_;intro a I;refine JM (zc:=[_,_]) I rfl rfl rfl og DS rfl rfl (by decide) (by omega) (by omega) O ?_;clear I a O;intro b13 w O;refine uO 7 ?_;refine u1 4 (ak rfl bz) ?_;intro a I
 refine wp_loop_ghost (fun (mm:Nat) a w=>∃(i:Nat),Ag a 29 [(2,.pointer (some ⟨b2,0,none⟩)),(3,.int .i64 0),(4,.slice (some ⟨b13,0,none⟩) xs.length xs.length),(14,.slice A (xs).length c),(15,.int .i64 ((xs.length:Nat):Int)),(16,.int .i64 ((i:Nat):Int))]∧Sat W w ([row 214 2 (.slice (some ⟨b13,0,none⟩) xs.length xs.length) xs.length (((xs.take i).map aS.dot++List.replicate (xs.length-i) (⟨0,0⟩:gk)).flatMap p6),aV b2 (.cells #[.slice none 0 0,.slice none 0 0] 63)])∧(i≤xs.length)∧mm=xs.length-i) xs.length ?_ ?_
 ·replace I:=I.kp [2,3,4,14,15,16] rfl;rw[CV]at O;exact⟨0,I,O,(by omega),by omega⟩
 intro m a w hI;clear O I;obtain⟨i,I,O,hi,rfl⟩:=hI;refine rC 2 I ?_;clear I a;refine aM 0 0 (aq rfl rfl) ?_ ?_
 ·intro h17;refine uO 11 ?_;obtain⟨A_p,rfl⟩:∃q,A=some q:=(hR.sat O).ao (by omega);obtain⟨x,hx⟩:∃zz_,xs[i]?=some zz_:=⟨_,List.getElem?_eq_getElem (by omega)⟩;refine u1 0 (ix rfl rfl bz dq) ?_;refine u1 0 (ax (cs:=mf x) rfl pg dq (fun j u e=>bI (hR.sat O) (cV hx j u e))) ?_;refine uN Cb O ?_;clear O;intro b6 w O;refine uO 1 ?_;refine uW (vs:=[_,_,_,_]) (cs':=[_,_,_,_]) rfl rfl dq O ?_;clear O;intro w O;refine uO 5 ?_;refine u1 0 (aa rfl cg) ?_;refine u1 0 (lS (cs:=[_,_]) rfl) ?_;refine u1 0 (aI (ix rfl rfl og gN) (show _=Value.pointer (some ⟨b13,i * 2,none⟩) from D6 b13 i)) ?_;intro a I;refine Gq (i * 2) (vs:=[_,_]) I rfl (by simp[Addr.add]) rfl gN (by simp[Value.oneCell']) (O.p 1) (by rw[oD tn];simp;omega) ?_;clear O;intro w O;refine rO 4 I ?_;clear I a
  refine u1 2 (ad rfl rfl) ?_;intro a I;replace I:=I.kp [2,3,4,14,15,16] rfl;rw[D8 hx]at O;exact⟨xs.length-(i+1),by omega,i+1,I,oW ((O.p 2).p 1),by omega,rfl⟩
 ·intro h17;obtain rfl:i=xs.length:=by omega
  intro a I;rw[Ds]at O;replace O:=gL O (m:=(xs.map aS.dot).length) (by simp) rfl;rw[show Value.slice (some ⟨b13,0,none⟩) xs.length xs.length=.slice (some ⟨b13,0,none⟩) (xs.map aS.dot).length xs.length from by rw[List.length_map]]at I;refine rO 9 I ?_;clear I a;intro a I;replace I:=I.kp [2,3,4] rfl;refine rC 3 I ?_;clear I a;refine uF rfl (EY _ _ _ (xs.map aS.dot) O.rd (by simp;omega)) ?_;rintro e w ⟨q,rfl,hq,hT⟩;replace O:Sat _ _ (_::_::_):=O.ag hT;clear hT;refine uW (vs:=[_,_]) (cs':=[_,_]) rfl rfl bj (O.p 3) ?_;clear O;intro w O;refine uO 4 ?_;intro a I;refine eu I rfl (dj (cs:=[_,_]) I rfl fy bj (by exact O.aE (xs:=[_,_]) rfl)) (dn I rfl) ?_;exact⟨q,rfl,hq,oW ((O.p 2).p 2)⟩
theorem zP (W:World)(A:Option Addr)(c:Nat)(xs:List aS)(hR:fJ W A c xs)(hl:xs.length≤10000000000):Calls Tryz.prog 237 #[.slice A (xs).length c,.string { data:=#[] },.int .i64 (-1)] W fun e w'=>∃q:PL,e=.returned (.agg #[.slice q.va q.d.vec.length q.vc,.slice q.ca q.d.ab.length q.cc])∧q.d=lX (xs.map aS.dot)∧Sat W w' [cN 3 q.va q.vc q.d.vec,bH 219 q.ca q.cc q.d.ab]:=by
 refine bP Tryz.func237 [0,1,2] ?_;have O:=Sat.start W;refine uC 2 ?_;refine uN dN O ?_;clear O;intro b6 w O;refine uO 14 ?_;intro a I;refine wp_loop_ghost (fun (mm:Nat) a w=>∃(i:Nat) (Ao:Option Addr) (co:Nat),Ag a 50 [(0,.slice A (xs).length c),(1,.string { data:=#[] }),(2,.int .i64 ((-1))),(6,.pointer (some ⟨b6,0,none⟩)),(7,.slice Ao (((xs.take i).map aS.dot)).length co),(8,.int .i64 ((i:Nat):Int))]∧Sat W w ([It 214 Ao co ((xs.take i).map aS.dot),aV b6 (.cells #[.slice none 0 0,.slice none 0 0] 63)])∧(i≤xs.length)∧mm=xs.length-i) xs.length ?_ ?_
 ·replace I:=I.kp [0,1,2,6,7,8] rfl;exact⟨0,none,0,I,(O.aW 214 2),(by omega),by omega⟩
 intro m a w hI;clear O I;obtain⟨i,Ao,co,I,O,hi,rfl⟩:=hI;refine rC 5 I ?_;clear I a;refine u1 0 (ak rfl bz) ?_;refine aM 0 0 (aq rfl rfl) ?_ ?_
 ·intro h12;have hcl:((xs.take i).map aS.dot).length≤10000000000:=by rw[List.length_map,List.length_take];omega
  refine uO 10 ?_;refine u1 11 (iM rfl rfl) ?_;refine u1 18 (dO (aq rfl rfl) (by omega)) ?_;obtain⟨A_p,rfl⟩:∃q,A=some q:=(hR.sat O).ao (by omega);obtain⟨x,hx⟩:∃zz_,xs[i]?=some zz_:=⟨_,List.getElem?_eq_getElem (by omega)⟩;refine u1 0 (ix rfl rfl bz dq) ?_;refine u1 0 (aw rfl cg) ?_;refine u1 0 (ax (cs:=[.int .i64 x.rep,.int .i64 x.num]) rfl nT gN (fun j u e=>lq (hR.sat O) (cV hx _ u (jA x j u e)))) ?_;intro a I;refine jl (vss:=[[_,_]]) I rfl rfl og DS rfl rfl rfl (by simp) rfl O ?_;clear I a O;intro A46 w O;intro a I;refine cZ I rfl rfl rfl og DS rfl (O.p 1) (O.rd.src og (by simp[Value.oneCell'])) (by omega) (by omega) ?_;clear I a O;intro A47 c47 w hc47 O;refine uO 6 ?_;refine u1 2 (ad rfl rfl) ?_;intro a I;replace I:=I.kp [0,1,2,6,7,8] rfl
  have ec:(xs.take i).map aS.dot++[x.dot]=(xs.take (i+1)).map aS.dot:=by rw[aA hx,List.map_append];rfl
  have el:((xs.take i).map aS.dot).length+1=((xs.take (i+1)).map aS.dot).length:=by rw[←ec,List.length_append];rfl
  have hS2:=gL O el (cs':=((xs.take (i+1)).map aS.dot).flatMap p6) (by rw[←ec,List.flatMap_append];rfl);rw[el]at I;exact⟨xs.length-(i+1),by omega,i+1,_,_,I,oW ((hS2.p 2).p 1),by omega,rfl⟩
 ·intro h12;obtain rfl:i=xs.length:=by omega
  intro a I;rw[List.take_length]at O I;refine rO 11 I ?_;clear I a;refine uF rfl (CO _ _ _ (xs.map aS.dot) O.rd (by simp;omega)) ?_;rintro e w ⟨q,rfl,hq,hT⟩;replace O:Sat _ _ (_::_::_):=O.ag hT;clear hT;refine uW (vs:=[_,_]) (cs':=[_,_]) rfl rfl bj (O.p 3) ?_;clear O;intro w O;refine uO 3 ?_;intro a I;refine gP I rfl (dj (cs:=[_,_]) I rfl fy bj (by exact O.aE (xs:=[_,_]) rfl)) ?_;exact⟨q,rfl,hq,oW ((O.p 2).p 2)⟩
def fg (r:bS):Bool:=(decide (r.cw={ data:=#[] }) || mF r.cw) && (bL r.bB && !eo r.bB)
def nG (r:bS):Int:=if (decide (r.cw={ data:=#[] }) || mF r.cw)=true then (if (bL r.bB && !eo r.bB)=true then 0 else 1) else 5
theorem jP (r:bS):decide (nG r=0)=fg r:=by
 unfold nG fg;cases (decide (r.cw={ data:=#[] }) || mF r.cw)
 ·
  rfl
 ·
  cases (bL r.bB && !eo r.bB)<;>rfl
def gJ (a b:bS):Int:=if yj a.cw b.cw=0 then p4 a.bB b.bB else yj a.cw b.cw
def fu (p:Option bS)(r:bS):Bool:=fg r && match p with | none=>true | some q=>decide (gJ q r<0)
def cC (l:List bS):Bool:=kK fu none l
def gQ (r:bS)(e:aS):Bool:=(decide (r.cw={ data:=#[] }) || decide (r.cw=e.cw)) && hasB r.bB e.rep e.num
def bJ (rs:List bS)(e:aS):Bool:=rs.any fun r=>gQ r e
theorem bO {rs:List RL}{i:Nat}{x:RL}(h:rs[i]?=some x):(rs.map RL.d)[i]?=some x.d:=by rw[List.getElem?_map,h];rfl
theorem nO (x:RL)(j:Nat)(u:Value)(e:([Value.slice x.p.va x.p.d.vec.length x.p.vc,Value.slice x.p.ca x.p.d.ab.length x.p.cc]:List Value)[j]?=some u):(jb x)[1+j]?=some u:=by
 have hj:=(List.getElem?_eq_some_iff.1 e).1;rw[←e]
 match j,hj with
 | 0,_=>rfl
 | 1,_=>rfl
def dz (n:Nat)(rs:List RL):Prop:=∀r∈rs,r.p.d.vec.length≤1000000000000∧r.p.d.ab.length≤n
theorem dz.get {n:Nat}{rs:List RL}(h:dz n rs){i:Nat}{x:RL}(hx:rs[i]?=some x):x.p.d.vec.length≤1000000000000∧x.p.d.ab.length≤n:=h x (List.mem_of_getElem? hx)
theorem DF {a b:ByteArray}(h:rj a.data.toList b.data.toList=true):yj a b=-1:=by unfold yj;rw[if_pos h]
theorem DV {a b:ByteArray}(h:rj a.data.toList b.data.toList=false)(h':rj b.data.toList a.data.toList=true):yj a b=1:=by unfold yj;rw[if_neg (by simp[h]),if_pos h']
theorem Hc {a b:ByteArray}(h:rj a.data.toList b.data.toList=false)(h':rj b.data.toList a.data.toList=false):yj a b=0:=by unfold yj;rw[if_neg (by simp[h]),if_neg (by simp[h'])]
theorem DQ {a b:ByteArray}(h:a.data.toList=b.data.toList):a=b:=by
 obtain⟨⟨x⟩⟩:=a;obtain⟨⟨y⟩⟩:=b;simp only at h;subst h;rfl
theorem qA {a b:ByteArray}:yj a b=0↔a=b:=by
 unfold yj;constructor
 ·
  intro h
  by_cases h1:rj a.data.toList b.data.toList=true
  ·
   rw[if_pos h1]at h;cases h
  ·
   by_cases h2:rj b.data.toList a.data.toList=true
   ·
    rw[if_neg h1,if_pos h2]at h;cases h
   ·
    have:=sY a.data.toList b.data.toList;simp only[Bool.not_eq_true]at h1 h2;rw[h1,h2]at this;simp at this;exact DQ (by simpa using this)
 ·
  rintro rfl;rw[pS];rfl
theorem Be {p q:aK}(h:∀r n,xg p r n↔xg q r n)(r n:Int):hasB p r n=hasB q r n:=by
 rw[Bool.eq_iff_iff,iP,iP,h]
theorem CI {ps:List aK}{r n:Int}:xg (iH ps) r n↔∃p∈ps,xg p r n:=by
 unfold xg;constructor
 ·
  rintro ⟨h1,h2,h3⟩;obtain⟨p,hp,h4⟩:=(su ps (by omega) n).1 h3;exact⟨p,hp,h1,h2,h4⟩
 ·
  rintro ⟨p,hp,h1,h2,h3⟩;exact⟨h1,h2,(su ps (by omega) n).2 ⟨p,hp,h3⟩⟩
theorem Dr (ps:List aK)(r n:Int):hasB (iH ps) r n=ps.any fun p=>hasB p r n:=by
 rw[Bool.eq_iff_iff,iP,CI,List.any_eq_true];constructor
 ·
  rintro ⟨p,hp,h⟩;exact⟨p,hp,iP.2 h⟩
 ·
  rintro ⟨p,hp,h⟩;exact⟨p,hp,iP.1 h⟩
theorem tH (a b:aK)(r n:Int):hasB (j0 a b) r n=(hasB a r n && !hasB b r n):=by
 rw[Bool.eq_iff_iff,iP,Bool.and_eq_true,iP,Bool.not_eq_true',←Bool.not_eq_true,iP];unfold xg;constructor
 ·
  rintro ⟨h1,h2,h3⟩;rw[kr a b (by omega)]at h3;obtain⟨h4,h5⟩:=(mC (bx a _) (bx b _) n).1 h3;exact⟨⟨h1,h2,h4⟩,fun h=>h5 h.2.2⟩
 ·
  rintro ⟨⟨h1,h2,h3⟩,h4⟩;refine⟨h1,h2,?_⟩;rw[kr a b (by omega)];exact (mC (bx a _) (bx b _) n).2 ⟨h3,fun h=>h4 ⟨h1,h2,h⟩⟩
theorem C0 (p:aK)(r n:Int):hasB (gU p) r n=hasB p r n:=by
 refine Be (fun r n=>?_) r n;unfold xg;constructor
 ·
  rintro ⟨h1,h2,h3⟩;rw[show gU p=fZ (aO p) from rfl,jU (fun r=>bx p r) (by omega)]at h3;exact⟨h1,h2,h3⟩
 ·
  rintro ⟨h1,h2,h3⟩;refine⟨h1,h2,?_⟩;rw[show gU p=fZ (aO p) from rfl,jU (fun r=>bx p r) (by omega)];exact h3
theorem pE {p:aK}(h:eo p=true)(r n:Int):hasB p r n=false:=by
 rw[Bool.eq_false_iff,ne_eq,iP];rintro ⟨h1,h2,h3⟩;rw[(rn p).1 h r.toNat (by omega)]at h3;simp[bF]at h3
theorem Ca {a b:ByteArray}(h:rj b.data.toList a.data.toList=true):yj a b=1:=by
 refine DV ?_ h
 by_cases h2:rj a.data.toList b.data.toList=true
 ·
  have:=wB _ _ _ h2 h;rw[pS]at this;cases this
 ·
  simpa using h2
theorem BZ {a b:ByteArray}(h:rj b.data.toList a.data.toList=false)(h':¬a=b):yj a b=-1:=by
 refine DF ?_;have h1:=sY b.data.toList a.data.toList;rw[←h1,h];have h2:¬b.data.toList=a.data.toList:=fun e=>h' (DQ e.symm)
 simp at h2 ⊢;exact h2
end Go.Proofs.YtkjabaihpkbfhaaGreat.Wk
namespace Go.Proofs.YtkjabaihpkbfhaaGreat.Wk
open Go Go.RowKit Go.Proofs.YtkjabaihpkbfhaaGreat Go.Proofs.YtkjabaihpkbfhaaGreat.K Go.Proofs Go.Shelf Go.Proofs.YtkjabaihpkbfhaaGreat.T
theorem AD (W:World)(a b:ByteArray):Calls Tryz.prog 397 #[.string a,.string b] W fun e w'=>e=.returned (.int .i64 (Lib.compareBytes a.data.toList b.data.toList))∧w'=W:=by
 go_enter Tryz.func397,Tryz.ntmps397
 go_wp2
 rw[run_callFunc_extern Tryz.func413 (by kernel_rfl) (by kernel_rfl) (by kernel_rfl) (e:=Extern.BytealgCompare.compare) (by kernel_rfl),Lib.run_compareString];simp only[Result.andThen];rw[Oper.upon_value]
 go_wp2
 go_ret
 exact⟨rfl,rfl⟩
theorem sL (W:World)(a b:ByteArray):Calls Tryz.prog 397 #[.string a,.string b] W fun e w'=>e=.returned (.int .i64 (yj a b))∧Sat W w' []:=
 (AD W a b).mono fun e w' ⟨h,hw⟩=>⟨by rw[h,BA];rfl,by rw[hw];exact Sat.start W⟩
theorem rS (W:World)(s t:ByteArray)  : Calls Tryz.prog 386 #[.string s,.string t] W fun e w'=>e=.returned (.int .i64 (yj s t))∧Sat W w' []:=by
 refine bP Tryz.func386 [0,1] ?_;have O:=Sat.start W;refine uC 9 ?_;refine uF rfl (sL _ s t) ?_;rintro e w ⟨rfl,hT⟩;replace O:Sat _ _ _:=O.ag hT;clear hT;refine uO 4 ?_;refine aU ?_;exact⟨rfl,O⟩
end Go.Proofs.YtkjabaihpkbfhaaGreat.Wk
namespace Go.Proofs.YtkjabaihpkbfhaaGreat.Wk
open Go Go.RowKit Go.Proofs.YtkjabaihpkbfhaaGreat Go.Proofs.YtkjabaihpkbfhaaGreat.K Go.Proofs.YtkjabaihpkbfhaaGreat.T
theorem tN (W:World)(x y:RL)(hpa:x.p.ok W)(hpb:y.p.ok W)(hla:x.p.d.ab.length≤10000000000)(hlb:y.p.d.ab.length≤10000000000):Calls Tryz.prog 369 #[.agg #[.string x.cw,.slice x.p.va x.p.d.vec.length x.p.vc,.slice x.p.ca x.p.d.ab.length x.p.cc],.agg #[.string y.cw,.slice y.p.va y.p.d.vec.length y.p.vc,.slice y.p.ca y.p.d.ab.length y.p.cc]] W fun e w'=>e=.returned (.int .i64 (gJ x.d y.d))∧Sat W w' []:=by
 refine bP Tryz.func369 [0,1] ?_;have O:=Sat.start W;refine uC 2 ?_;refine uB rfl O ?_;clear O;intro b2 w O;refine uB rfl O ?_;clear O;intro b3 w O;refine uO 6 ?_;refine u1 0 (aa rfl bW) ?_;refine u1 0 (ld rfl) ?_;refine u1 0 (aa rfl bW) ?_;refine u1 0 (ld rfl) ?_;refine uF rfl (rS _ x.cw y.cw) ?_;rintro e w ⟨rfl,hT⟩;replace O:Sat _ _ _:=O.ag hT;clear hT;refine uO 6 ?_;refine aM 0 0 (aD rfl rfl) ?_ ?_
 ·intro h12;refine uO 11 ?_;refine aU ?_;refine⟨?_,O.nil⟩;unfold gJ RL.d;dsimp only;rw[if_neg (by omega)]
 ·intro h12;refine uO 7 ?_;refine u1 0 (aa rfl bK) ?_;refine u1 0 (lS (cs:=[_,_]) rfl) ?_;refine u1 0 (aa rfl bK) ?_;refine u1 0 (lS (cs:=[_,_]) rfl) ?_;refine uF rfl (vq _ x.p y.p (hpa.sat O) (hpb.sat O) hla hlb) ?_;rintro e w ⟨rfl,hT⟩;replace O:Sat _ _ _:=O.ag hT;clear hT;refine uO 4 ?_;refine aU ?_;refine⟨?_,O.nil⟩;unfold gJ RL.d;dsimp only;rw[if_pos (by omega)]
theorem uY (W:World)(x y:RL)(hpa:x.p.ok W)(hpb:y.p.ok W)(hla:x.p.d.ab.length≤10000000000)(hlb:y.p.d.ab.length≤10000000000):Calls Tryz.prog 229 #[.agg #[.string x.cw,.slice x.p.va x.p.d.vec.length x.p.vc,.slice x.p.ca x.p.d.ab.length x.p.cc],.agg #[.string y.cw,.slice y.p.va y.p.d.vec.length y.p.vc,.slice y.p.ca y.p.d.ab.length y.p.cc]] W fun e w'=>e=.returned (.int .i64 (gJ x.d y.d))∧Sat W w' []:=by
 refine bP Tryz.func229 [0,1] ?_;have O:=Sat.start W;refine uC 2 ?_;refine uB rfl O ?_;clear O;intro b2 w O;refine uB rfl O ?_;clear O;intro b3 w O;refine uO 6 ?_;refine u1 0 (aa rfl bW) ?_;refine u1 0 (ld rfl) ?_;refine u1 0 (aa rfl bW) ?_;refine u1 0 (ld rfl) ?_;refine nk 0 0 (Ir rfl rfl) ?_ ?_
 ·intro h9;refine uO 10 ?_;refine aU ?_;refine⟨?_,O.nil⟩;unfold gJ RL.d;dsimp only;rw[DF h9,if_neg (by decide)]
 ·intro h9;refine uO 8 ?_;refine u1 0 (aa rfl bW) ?_;refine u1 0 (ld rfl) ?_;refine u1 0 (aa rfl bW) ?_;refine u1 0 (ld rfl) ?_;refine nk 0 0 (Ei rfl rfl) ?_ ?_
  ·intro h14;refine uO 10 ?_;refine aU ?_;refine⟨?_,O.nil⟩;unfold gJ RL.d;dsimp only;rw[DV h9 h14,if_neg (by decide)]
  ·intro h14;refine uO 7 ?_;refine u1 0 (aa rfl bK) ?_;refine u1 0 (lS (cs:=[_,_]) rfl) ?_;refine u1 0 (aa rfl bK) ?_;refine u1 0 (lS (cs:=[_,_]) rfl) ?_;refine uF rfl (lr _ x.p y.p (hpa.sat O) (hpb.sat O) hla hlb) ?_;rintro e w ⟨rfl,hT⟩;replace O:Sat _ _ _:=O.ag hT;clear hT;refine uO 3 ?_;intro a I;replace I:=I.kp [4] rfl;refine rC 1 I ?_;clear I a;refine aU ?_;refine⟨?_,O.nil⟩;unfold gJ RL.d;dsimp only;rw[Hc h9 h14,if_pos rfl]
theorem qJ (W:World)(r:RL)(hp:r.p.ok W)(hrv:r.p.d.vec.length≤1000000000000)(hrc:r.p.d.ab.length≤10000000000):Calls Tryz.prog 368 #[.agg #[.string r.cw,.slice r.p.va r.p.d.vec.length r.p.vc,.slice r.p.ca r.p.d.ab.length r.p.cc]] W fun e w'=>e=.returned (.int .i64 (nG r.d))∧Sat W w' []:=by
 refine bP Tryz.func368 [0] ?_;have O:=Sat.start W;refine uC 2 ?_;refine uB rfl O ?_;clear O;intro b1 w O;refine uO 6 ?_;refine u1 0 (aa rfl bW) ?_;refine u1 0 (ld rfl) ?_;refine aM 0 0 (AE rfl rfl) ?_ ?_
 ·intro h5;refine uO 1 ?_;refine u1 0 (aa rfl bW) ?_;refine u1 0 (ld rfl) ?_;refine jL rfl (o9 _ r.cw) ?_;rintro e w ⟨rfl,hT⟩;replace O:Sat _ _ _:=O.ag hT;clear hT;generalize h9:(mF r.cw)=bb;cases bb
  ·refine u1 11 (aF rfl) ?_;refine aU ?_;refine⟨?_,O.nil⟩;unfold nG RL.d;dsimp only;rw[if_neg (by rw[h9];simpa using h5)]
  ·refine u1 9 (aF rfl) ?_;refine u1 0 (aa rfl bK) ?_;refine u1 0 (lS (cs:=[_,_]) rfl) ?_;refine uF rfl (fC _ r.p (hp.sat O) hrc hrv) ?_;rintro e w ⟨rfl,hT⟩;replace O:Sat _ _ _:=O.ag hT;clear hT;generalize h14:(bL r.p.d)=bb;cases bb
   ·refine u1 13 (aF rfl) ?_;intro a I;replace I:=I.kp [2] rfl;refine rC 2 I ?_;clear I a;refine aU ?_;refine⟨?_,O.nil⟩;unfold nG RL.d;dsimp only;rw[if_pos (by simp[h9]),if_neg (by rw[h14];simp)]
   ·refine u1 1 (aF rfl) ?_;refine u1 0 (aa rfl bK) ?_;refine u1 0 (lS (cs:=[_,_]) rfl) ?_;refine jL rfl (gE _ r.p (hp.sat O) hrc) ?_;rintro e w ⟨rfl,hT⟩;replace O:Sat _ _ _:=O.ag hT;clear hT;generalize h19:(eo r.p.d)=bb;cases bb
    ·refine uO 12 ?_;refine aU ?_;refine⟨?_,O.nil⟩;unfold nG RL.d;dsimp only;rw[if_pos (by simp[h9]),if_pos (by rw[h14,h19];rfl)]
    ·refine uO 11 ?_;refine aU ?_;refine⟨?_,O.nil⟩;unfold nG RL.d;dsimp only;rw[if_pos (by simp[h9]),if_neg (by rw[h19];simp)]
 ·intro h5;refine uO 14 ?_;refine u1 0 (aa rfl bK) ?_;refine u1 0 (lS (cs:=[_,_]) rfl) ?_;refine uF rfl (fC _ r.p (hp.sat O) hrc hrv) ?_;rintro e w ⟨rfl,hT⟩;replace O:Sat _ _ _:=O.ag hT;clear hT;generalize h14:(bL r.p.d)=bb;cases bb
  ·refine u1 13 (aF rfl) ?_;intro a I;replace I:=I.kp [2] rfl;refine rC 2 I ?_;clear I a;refine aU ?_;refine⟨?_,O.nil⟩;unfold nG RL.d;dsimp only;rw[if_pos (by simp;exact .inl (Classical.not_not.1 h5)),if_neg (by rw[h14];simp)]
  ·refine u1 1 (aF rfl) ?_;refine u1 0 (aa rfl bK) ?_;refine u1 0 (lS (cs:=[_,_]) rfl) ?_;refine jL rfl (gE _ r.p (hp.sat O) hrc) ?_;rintro e w ⟨rfl,hT⟩;replace O:Sat _ _ _:=O.ag hT;clear hT;generalize h19:(eo r.p.d)=bb;cases bb
   ·refine uO 12 ?_;refine aU ?_;refine⟨?_,O.nil⟩;unfold nG RL.d;dsimp only;rw[if_pos (by simp;exact .inl (Classical.not_not.1 h5)),if_pos (by rw[h14,h19];rfl)]
   ·refine uO 9 ?_;intro a I;replace I:=I.kp [2] rfl;refine rC 2 I ?_;clear I a;refine aU ?_;refine⟨?_,O.nil⟩;unfold nG RL.d;dsimp only;rw[if_pos (by simp;exact .inl (Classical.not_not.1 h5)),if_neg (by rw[h19];simp)]
theorem pF (W:World)(r:RL)(hp:r.p.ok W)(hrv:r.p.d.vec.length≤1000000000000)(hrc:r.p.d.ab.length≤10000000000):Calls Tryz.prog 228 #[.agg #[.string r.cw,.slice r.p.va r.p.d.vec.length r.p.vc,.slice r.p.ca r.p.d.ab.length r.p.cc]] W fun e w'=>e=.returned (.int .i64 (nG r.d))∧Sat W w' []:=by
 refine bP Tryz.func228 [0] ?_;have O:=Sat.start W;refine uC 2 ?_;refine uB rfl O ?_;clear O;intro b1 w O;refine uO 6 ?_;refine u1 0 (aa rfl bW) ?_;refine u1 0 (ld rfl) ?_;refine aM 0 0 (AE rfl rfl) ?_ ?_
 ·intro h5;refine uO 1 ?_;refine u1 0 (aa rfl bW) ?_;refine u1 0 (ld rfl) ?_;refine jL rfl (gj _ r.cw) ?_;rintro e w ⟨rfl,hT⟩;replace O:Sat _ _ _:=O.ag hT;clear hT;generalize h9:(mF r.cw)=bb;cases bb
  ·refine u1 11 (aF rfl) ?_;refine aU ?_;refine⟨?_,O.nil⟩;unfold nG RL.d;dsimp only;rw[if_neg (by rw[h9];simpa using h5)]
  ·refine u1 9 (aF rfl) ?_;refine u1 0 (aa rfl bK) ?_;refine u1 0 (lS (cs:=[_,_]) rfl) ?_;refine uF rfl (eY _ r.p (hp.sat O) hrc hrv) ?_;rintro e w ⟨rfl,hT⟩;replace O:Sat _ _ _:=O.ag hT;clear hT;generalize h14:(bL r.p.d)=bb;cases bb
   ·refine u1 13 (aF rfl) ?_;intro a I;replace I:=I.kp [2] rfl;refine rC 2 I ?_;clear I a;refine aU ?_;refine⟨?_,O.nil⟩;unfold nG RL.d;dsimp only;rw[if_pos (by simp[h9]),if_neg (by rw[h14];simp)]
   ·refine u1 1 (aF rfl) ?_;refine u1 0 (aa rfl bK) ?_;refine u1 0 (lS (cs:=[_,_]) rfl) ?_;refine jL rfl (iW _ r.p (hp.sat O) hrc) ?_;rintro e w ⟨rfl,hT⟩;replace O:Sat _ _ _:=O.ag hT;clear hT;generalize h19:(eo r.p.d)=bb;cases bb
    ·refine uO 12 ?_;refine aU ?_;refine⟨?_,O.nil⟩;unfold nG RL.d;dsimp only;rw[if_pos (by simp[h9]),if_pos (by rw[h14,h19];rfl)]
    ·refine uO 11 ?_;refine aU ?_;refine⟨?_,O.nil⟩;unfold nG RL.d;dsimp only;rw[if_pos (by simp[h9]),if_neg (by rw[h19];simp)]
 ·intro h5;refine uO 14 ?_;refine u1 0 (aa rfl bK) ?_;refine u1 0 (lS (cs:=[_,_]) rfl) ?_;refine uF rfl (eY _ r.p (hp.sat O) hrc hrv) ?_;rintro e w ⟨rfl,hT⟩;replace O:Sat _ _ _:=O.ag hT;clear hT;generalize h14:(bL r.p.d)=bb;cases bb
  ·refine u1 13 (aF rfl) ?_;intro a I;replace I:=I.kp [2] rfl;refine rC 2 I ?_;clear I a;refine aU ?_;refine⟨?_,O.nil⟩;unfold nG RL.d;dsimp only;rw[if_pos (by simp;exact .inl (Classical.not_not.1 h5)),if_neg (by rw[h14];simp)]
  ·refine u1 1 (aF rfl) ?_;refine u1 0 (aa rfl bK) ?_;refine u1 0 (lS (cs:=[_,_]) rfl) ?_;refine jL rfl (iW _ r.p (hp.sat O) hrc) ?_;rintro e w ⟨rfl,hT⟩;replace O:Sat _ _ _:=O.ag hT;clear hT;generalize h19:(eo r.p.d)=bb;cases bb
   ·refine uO 12 ?_;refine aU ?_;refine⟨?_,O.nil⟩;unfold nG RL.d;dsimp only;rw[if_pos (by simp;exact .inl (Classical.not_not.1 h5)),if_pos (by rw[h14,h19];rfl)]
   ·refine uO 9 ?_;intro a I;replace I:=I.kp [2] rfl;refine rC 2 I ?_;clear I a;refine aU ?_;refine⟨?_,O.nil⟩;unfold nG RL.d;dsimp only;rw[if_pos (by simp;exact .inl (Classical.not_not.1 h5)),if_neg (by rw[h19];simp)]
theorem fD (W:World)(A:Option Addr)(c:Nat)(rs:List RL)(hR:fO W A c rs)(hE:∀r∈rs,r.p.ok W)(hB:dz 10000000000 rs)(hl:rs.length≤1000000000000):Calls Tryz.prog 353 #[.slice A (rs).length c] W fun e w'=>e=.returned (.int .i64 (if cC (rs.map RL.d)=true then 0 else 1))∧Sat W w' []:=by
 refine bP Tryz.func353 [0] ?_;have O:=Sat.start W;refine uC 9 ?_;refine u1 4 (ak rfl dg) ?_;intro a I;refine wp_loop_ghost (fun (mm:Nat) a w=>∃(i:Nat),Ag a 30 [(0,.slice A (rs).length c),(5,.slice A (rs).length c),(6,.int .i64 ((rs.length:Nat):Int)),(7,.int .i64 ((i:Nat):Int))]∧Sat W w ([])∧(i≤rs.length)∧(∀j x,j<i→(rs.map RL.d)[j]?=some x→fu (ahead none (rs.map RL.d) j) x=true)∧mm=rs.length-i) rs.length ?_ ?_
 ·replace I:=I.kp [0,5,6,7] rfl;exact⟨0,I,O,(by omega),(by intro j x hj;omega),by omega⟩
 intro m a w hI;clear O I;obtain⟨i,I,O,hi,he,rfl⟩:=hI;refine rC 2 I ?_;clear I a;refine aM 0 0 (aq rfl rfl) ?_ ?_
 ·intro h8;refine uO 11 ?_;obtain⟨A_p,rfl⟩:∃q,A=some q:=(hR.sat O).ao (by omega);obtain⟨x,hx⟩:∃zz_,rs[i]?=some zz_:=⟨_,List.getElem?_eq_getElem (by omega)⟩;have hxo:=hE x (List.mem_of_getElem? hx);obtain⟨hxv,hxc⟩:=hB.get hx;refine u1 0 (ix rfl rfl dg cn) ?_;refine u1 0 (ax (cs:=jb x) rfl k8 cn (fun j u e=>bI (hR.sat O) (cT hx j u e))) ?_;refine uN mh O ?_;clear O;intro b4 w O;refine uO 1 ?_;refine uW (vs:=[_,_,_]) (cs':=[_,_,_]) rfl rfl cn O ?_;clear O;intro w O;refine uO 3 ?_;intro a I;refine bg [13] O (by kernel_rfl) ?_;replace O:=O.drew;refine X1 0 [] I rfl (by exact⟨[],O⟩) (fun w hT=>have O:=hT.sat;(ax (cs:=[_,_,_]) (I.ev rfl) k8 cn (by exact O.aE (xs:=[_,_,_]) rfl))) ?_;clear I a;intro a I;refine aG 1 (by kernel_rfl) ?_
  refine eF I rfl rfl Jc rfl (qJ _ x (hxo.sat O) hxv hxc) ?_;clear I a;rintro e w ⟨rfl,hT⟩;replace O:Sat _ _ _:=O.ag hT;clear hT;refine⟨_,rfl,?_⟩;intro a I;refine⟨.inr fun _=>(by exact⟨[],O⟩),?_⟩;refine K.Gv 2 I pk rfl rfl rfl rfl (by kernel_rfl) (by kernel_rfl) (by kernel_rfl) (fun w=>(aD (I.ev rfl) (I.ev rfl))) ?_ ?_
  ·clear I a;intro h14;refine uX [3,4,5,6,7,8,9,10,11,12,13,14,15,16] ?_;intro a I;refine ah (by kernel_rfl) ?_ _;refine rE 13 I ?_;clear I a;refine aU ?_;have hok:fg x.d=false:=by rw[←jP];simpa using h14
   have hst:fu (ahead none (rs.map RL.d) i) x.d=false:=by unfold fu;rw[hok];rfl
   have hf:cC (rs.map RL.d)=false:=dI (bO hx) hst;exact⟨by simp[hf],O.nil⟩
  ·clear I a;intro h14;refine uX [3,4] ?_;intro a I;refine K.D9 5 I pk rfl (aT I rfl rfl rfl) rfl rfl (by kernel_rfl) (by kernel_rfl) (by kernel_rfl) (fun w=>(db (I.ev rfl) (I.ev rfl))) ?_ ?_
   ·clear I a;intro h17;refine uX [6,7,8] ?_;refine bA 9 [] rfl (fun w=>(aI (sb rfl rfl) (show _=Value.int .i64 ((i-1:Nat):Int) from congrArg (Value.int .i64) (by omega)))) ?_;obtain⟨y,hy⟩:∃zz_,rs[i-1]?=some zz_:=⟨_,List.getElem?_eq_getElem (by omega)⟩;have hyo:=hE y (List.mem_of_getElem? hy);obtain⟨hyv,hyc⟩:=hB.get hy;refine bA 10 [] rfl (fun w=>(ix rfl rfl dg cn)) ?_;refine cW 11 [] rfl (by exact⟨[],O⟩) (fun w hT=>have O:=hT.sat;(ax (cs:=jb y) rfl k8 cn (fun j u e=>bI (hR.sat O) (cT hy j u e)))) ?_;refine cW 12 [] rfl (by exact⟨[],O⟩) (fun w hT=>have O:=hT.sat;(lS (cs:=[_,_,_]) rfl)) ?_;intro a I;refine aG 13 (by kernel_rfl) ?_;refine Fh I rfl (aT I rfl rfl rfl) rfl Iv rfl (tN _ y x (hyo.sat O) (hxo.sat O) hyc hxc) ?_;clear I a;rintro e w ⟨rfl,hT⟩;replace O:Sat _ _ _:=O.ag hT;clear hT
    refine⟨_,rfl,?_⟩;intro a I;refine⟨.inl rfl,?_⟩;refine K.D9 14 I pk rfl (aT I rfl rfl rfl) rfl rfl (by kernel_rfl) (by kernel_rfl) (by kernel_rfl) (fun w=>(ek (I.ev rfl) (I.ev rfl))) ?_ ?_
    ·clear I a;intro h26;refine uX [15,16] ?_;intro a I;refine ah (by kernel_rfl) ?_ _;refine rE 13 I ?_;clear I a;refine aU ?_;have hok:fg x.d=true:=by rw[←jP];simpa using h14
     have hst:fu (ahead none (rs.map RL.d) i) x.d=false:=by
      unfold fu ahead;rw[if_neg (by omega),bO hy,hok];simp;omega
     have hf:cC (rs.map RL.d)=false:=dI (bO hx) hst;exact⟨by simp[hf],O.nil⟩
    ·clear I a;intro h26;refine uX [15,16] ?_;intro a I;refine ah (by kernel_rfl) ?_ _;refine rE 6 I ?_;clear I a;refine u1 2 (ad rfl rfl) ?_;intro a I;replace I:=I.kp [0,5,6,7] rfl;have hok:fg x.d=true:=by rw[←jP];simpa using h14
     have hst:fu (ahead none (rs.map RL.d) i) x.d=true:=by
      unfold fu ahead;rw[if_neg (by omega),bO hy,hok];simp;omega
     exact⟨rs.length-(i+1),by omega,i+1,I,O.nil,by omega,fun j z hj hz=>(by rcases Nat.lt_or_ge j i with h | h;exact he j z h hz;obtain rfl:j=i:=(by omega);rw[bO hx]at hz;cases hz;exact hst),rfl⟩
   ·clear I a;intro h17;refine uX [6,7,8,9,10,11,12,13,14,15,16] ?_;intro a I;refine ah (by kernel_rfl) ?_ _;refine rE 6 I ?_;clear I a;refine u1 2 (ad rfl rfl) ?_;intro a I;replace I:=I.kp [0,5,6,7] rfl;have hok:fg x.d=true:=by rw[←jP];simpa using h14
    have hst:fu (ahead none (rs.map RL.d) i) x.d=true:=by
     obtain rfl:i=0:=by omega
     unfold fu ahead;rw[hok];rfl
    exact⟨rs.length-(i+1),by omega,i+1,I,O.nil,by omega,fun j z hj hz=>(by rcases Nat.lt_or_ge j i with h | h;exact he j z h hz;obtain rfl:j=i:=(by omega);rw[bO hx]at hz;cases hz;exact hst),rfl⟩
 ·intro h8;refine uO 15 ?_;refine aU ?_;obtain rfl:i=rs.length:=by omega
  have hf:cC (rs.map RL.d)=true:=df fun j x hx=>he j x (by have:=(List.getElem?_eq_some_iff.1 hx).1;simpa using this) hx
  exact⟨by simp[hf],O.nil⟩
theorem qV (W:World)(A:Option Addr)(c:Nat)(rs:List RL)(hR:fO W A c rs)(hE:∀r∈rs,r.p.ok W)(hB:dz 10000000000 rs)(hl:rs.length≤1000000000000):Calls Tryz.prog 181 #[.slice A (rs).length c] W fun e w'=>e=.returned (.int .i64 (if cC (rs.map RL.d)=true then 0 else 1))∧Sat W w' []:=by
 refine bP Tryz.func181 [0] ?_;have O:=Sat.start W;refine uC 12 ?_;intro a I;refine wp_loop_ghost (fun (mm:Nat) a w=>∃(i:Nat),Ag a 31 [(0,.slice A (rs).length c),(3,.int .i64 ((i:Nat):Int))]∧Sat W w ([])∧(i≤rs.length)∧(∀j x,j<i→(rs.map RL.d)[j]?=some x→fu (ahead none (rs.map RL.d) j) x=true)∧mm=rs.length-i) rs.length ?_ ?_
 ·replace I:=I.kp [0,3] rfl;exact⟨0,I,O,(by omega),(by intro j x hj;omega),by omega⟩
 intro m a w hI;clear O I;obtain⟨i,I,O,hi,he,rfl⟩:=hI;refine rC 5 I ?_;clear I a;refine u1 0 (ak rfl dg) ?_;refine aM 0 0 (aq rfl rfl) ?_ ?_
 ·intro h7;refine uO 12 ?_;obtain⟨A_p,rfl⟩:∃q,A=some q:=(hR.sat O).ao (by omega);obtain⟨x,hx⟩:∃zz_,rs[i]?=some zz_:=⟨_,List.getElem?_eq_getElem (by omega)⟩;have hxo:=hE x (List.mem_of_getElem? hx);obtain⟨hxv,hxc⟩:=hB.get hx;refine u1 0 (ix rfl rfl dg cn) ?_;refine u1 0 (ax (cs:=jb x) rfl k8 cn (fun j u e=>bI (hR.sat O) (cT hx j u e))) ?_;refine uF rfl (pF _ x (hxo.sat O) hxv hxc) ?_;rintro e w ⟨rfl,hT⟩;replace O:Sat _ _ _:=O.ag hT;clear hT;refine aM 0 0 (aD rfl rfl) ?_ ?_
  ·intro h15;refine uO 15 ?_;refine aU ?_;have hok:fg x.d=false:=by rw[←jP];simpa using h15
   have hst:fu (ahead none (rs.map RL.d) i) x.d=false:=by unfold fu;rw[hok];rfl
   have hf:cC (rs.map RL.d)=false:=dI (bO hx) hst;exact⟨by simp[hf],O.nil⟩
  ·intro h15;refine uO 6 ?_;intro a I;refine bg [12] O (by kernel_rfl) ?_;replace O:=O.drew;refine rX [0] I ?_;clear I a;intro a I;refine K.Gv 1 I pk rfl rfl rfl rfl (by kernel_rfl) (by kernel_rfl) (by kernel_rfl) (fun w=>(db (I.ev rfl) (I.ev rfl))) ?_ ?_
   ·clear I a;intro h17;refine uX [2,3,4] ?_;refine bA 5 [] rfl (fun w=>(aI (sb rfl rfl) (show _=Value.int .i64 ((i-1:Nat):Int) from congrArg (Value.int .i64) (by omega)))) ?_;obtain⟨y,hy⟩:∃zz_,rs[i-1]?=some zz_:=⟨_,List.getElem?_eq_getElem (by omega)⟩;have hyo:=hE y (List.mem_of_getElem? hy);obtain⟨hyv,hyc⟩:=hB.get hy;refine bA 6 [] rfl (fun w=>(ix rfl rfl dg cn)) ?_;refine cW 7 [8,9] rfl (by exact⟨[],O⟩) (fun w hT=>have O:=hT.sat;(ax (cs:=jb y) rfl k8 cn (fun j u e=>bI (hR.sat O) (cT hy j u e)))) ?_;refine bA 10 [] rfl (fun w=>(ix rfl rfl dg cn)) ?_;refine cW 11 [] rfl (by exact⟨[],O⟩) (fun w hT=>have O:=hT.sat;(ax (cs:=jb x) rfl k8 cn (fun j u e=>bI (hR.sat O) (cT hx j u e)))) ?_;intro a I;refine aG 12 (by kernel_rfl) ?_
    refine Fh I rfl (aT I rfl rfl rfl) rfl HY rfl (uY _ y x (hyo.sat O) (hxo.sat O) hyc hxc) ?_;clear I a;rintro e w ⟨rfl,hT⟩;replace O:Sat _ _ _:=O.ag hT;clear hT;refine⟨_,rfl,?_⟩;intro a I;refine⟨.inl rfl,?_⟩;refine K.D9 13 I pk rfl (aT I rfl rfl rfl) rfl rfl (by kernel_rfl) (by kernel_rfl) (by kernel_rfl) (fun w=>(ek (I.ev rfl) (I.ev rfl))) ?_ ?_
    ·clear I a;intro h29;refine uX [14] ?_;intro a I;refine ah (by kernel_rfl) ?_ _;refine rE 13 I ?_;clear I a;refine aU ?_;have hok:fg x.d=true:=by rw[←jP];simpa using h15
     have hst:fu (ahead none (rs.map RL.d) i) x.d=false:=by
      unfold fu ahead;rw[if_neg (by omega),bO hy,hok];simp;omega
     have hf:cC (rs.map RL.d)=false:=dI (bO hx) hst;exact⟨by simp[hf],O.nil⟩
    ·clear I a;intro h29;refine uX [14] ?_;intro a I;refine ah (by kernel_rfl) ?_ _;refine rE 7 I ?_;clear I a;refine u1 2 (ad rfl rfl) ?_;intro a I;replace I:=I.kp [0,3] rfl;have hok:fg x.d=true:=by rw[←jP];simpa using h15
     have hst:fu (ahead none (rs.map RL.d) i) x.d=true:=by
      unfold fu ahead;rw[if_neg (by omega),bO hy,hok];simp;omega
     exact⟨rs.length-(i+1),by omega,i+1,I,O.nil,by omega,fun j z hj hz=>(by rcases Nat.lt_or_ge j i with h | h;exact he j z h hz;obtain rfl:j=i:=(by omega);rw[bO hx]at hz;cases hz;exact hst),rfl⟩
   ·clear I a;intro h17;refine uX [2,3,4,5,6,7,8,9,10,11,12,13,14] ?_;intro a I;refine ah (by kernel_rfl) ?_ _;refine rE 7 I ?_;clear I a;refine u1 2 (ad rfl rfl) ?_;intro a I;replace I:=I.kp [0,3] rfl;have hok:fg x.d=true:=by rw[←jP];simpa using h15
    have hst:fu (ahead none (rs.map RL.d) i) x.d=true:=by
     obtain rfl:i=0:=by omega
     unfold fu ahead;rw[hok];rfl
    exact⟨rs.length-(i+1),by omega,i+1,I,O.nil,by omega,fun j z hj hz=>(by rcases Nat.lt_or_ge j i with h | h;exact he j z h hz;obtain rfl:j=i:=(by omega);rw[bO hx]at hz;cases hz;exact hst),rfl⟩
 ·intro h7;refine uO 14 ?_;refine aU ?_;obtain rfl:i=rs.length:=by omega
  have hf:cC (rs.map RL.d)=true:=df fun j x hx=>he j x (by have:=(List.getElem?_eq_some_iff.1 hx).1;simpa using this) hx
  exact⟨by simp[hf],O.nil⟩
theorem vT (W:World)(r:RL)(hp:r.p.ok W)(hrv:r.p.d.vec.length≤1000000000000)(hrc:r.p.d.ab.length≤10000000000):Calls Tryz.prog 268 #[.agg #[.string r.cw,.slice r.p.va r.p.d.vec.length r.p.vc,.slice r.p.ca r.p.d.ab.length r.p.cc]] W fun e w'=>e=.returned (.bool (fg r.d))∧Sat W w' []:=by
 refine bP Tryz.func268 [0] ?_;have O:=Sat.start W;refine uC 2 ?_;refine uB rfl O ?_;clear O;intro b1 w O;refine uO 5 ?_;refine u1 0 (aa rfl bW) ?_;refine u1 0 (ld rfl) ?_;refine aM 0 0 (iM rfl rfl) ?_ ?_
 ·intro h5;refine uO 6 ?_;refine u1 0 (aa rfl bK) ?_;refine u1 0 (lS (cs:=[_,_]) rfl) ?_;refine jL rfl (eY _ r.p (hp.sat O) hrc hrv) ?_;rintro e w ⟨rfl,hT⟩;replace O:Sat _ _ _:=O.ag hT;clear hT;generalize h14:(bL r.p.d)=bb;cases bb
  ·refine uO 11 ?_;refine aU ?_;refine⟨?_,O.nil⟩;unfold fg RL.d;dsimp only;rw[decide_eq_true h5,h14];simp
  ·refine uO 2 ?_;refine u1 0 (aa rfl bK) ?_;refine u1 0 (lS (cs:=[_,_]) rfl) ?_;refine jL rfl (iW _ r.p (hp.sat O) hrc) ?_;rintro e w ⟨rfl,hT⟩;replace O:Sat _ _ _:=O.ag hT;clear hT;refine u1 5 (aF rfl) ?_;refine aU ?_;refine⟨?_,O.nil⟩;unfold fg RL.d;dsimp only;rw[decide_eq_true h5,h14];simp
 ·intro h5;refine uO 1 ?_;refine u1 0 (aa rfl bW) ?_;refine u1 0 (ld rfl) ?_;refine jL rfl (gj _ r.cw) ?_;rintro e w ⟨rfl,hT⟩;replace O:Sat _ _ _:=O.ag hT;clear hT;generalize h9:(mF r.cw)=bb;cases bb
  ·refine uO 16 ?_;refine aU ?_;refine⟨?_,O.nil⟩;unfold fg RL.d;dsimp only;rw[decide_eq_false h5,h9];rfl
  ·refine uO 2 ?_;refine u1 0 (aa rfl bK) ?_;refine u1 0 (lS (cs:=[_,_]) rfl) ?_;refine jL rfl (eY _ r.p (hp.sat O) hrc hrv) ?_;rintro e w ⟨rfl,hT⟩;replace O:Sat _ _ _:=O.ag hT;clear hT;generalize h14:(bL r.p.d)=bb;cases bb
   ·refine uO 11 ?_;refine aU ?_;refine⟨?_,O.nil⟩;unfold fg RL.d;dsimp only;rw[decide_eq_false h5,h9,h14];simp
   ·refine uO 2 ?_;refine u1 0 (aa rfl bK) ?_;refine u1 0 (lS (cs:=[_,_]) rfl) ?_;refine jL rfl (iW _ r.p (hp.sat O) hrc) ?_;rintro e w ⟨rfl,hT⟩;replace O:Sat _ _ _:=O.ag hT;clear hT;refine u1 5 (aF rfl) ?_;refine aU ?_;refine⟨?_,O.nil⟩;unfold fg RL.d;dsimp only;rw[decide_eq_false h5,h9,h14];simp
theorem uz (W:World)(A:Option Addr)(c:Nat)(rs:List RL)(hR:fO W A c rs)(hE:∀r∈rs,r.p.ok W)(hB:dz 10000000000 rs)(hl:rs.length≤1000000000000):Calls Tryz.prog 235 #[.slice A (rs).length c] W fun e w'=>e=.returned (.bool (cC (rs.map RL.d)))∧Sat W w' []:=by
 refine bP Tryz.func235 [0] ?_;have O:=Sat.start W;refine uC 12 ?_;intro a I;refine wp_loop_ghost (fun (mm:Nat) a w=>∃(i:Nat),Ag a 49 [(0,.slice A (rs).length c),(3,.int .i64 ((i:Nat):Int))]∧Sat W w ([])∧(i≤rs.length)∧(∀j x,j<i→(rs.map RL.d)[j]?=some x→fu (ahead none (rs.map RL.d) j) x=true)∧mm=rs.length-i) rs.length ?_ ?_
 ·replace I:=I.kp [0,3] rfl;exact⟨0,I,O,(by omega),(by intro j x hj;omega),by omega⟩
 intro m a w hI;clear O I;obtain⟨i,I,O,hi,he,rfl⟩:=hI;refine rC 5 I ?_;clear I a;refine u1 0 (ak rfl dg) ?_;refine aM 0 0 (aq rfl rfl) ?_ ?_
 ·intro h9;refine uO 12 ?_;obtain⟨A_p,rfl⟩:∃q,A=some q:=(hR.sat O).ao (by omega);obtain⟨x,hx⟩:∃zz_,rs[i]?=some zz_:=⟨_,List.getElem?_eq_getElem (by omega)⟩;have hxo:=hE x (List.mem_of_getElem? hx);obtain⟨hxv,hxc⟩:=hB.get hx;refine u1 0 (ix rfl rfl dg cn) ?_;refine u1 0 (ax (cs:=jb x) rfl k8 cn (fun j u e=>bI (hR.sat O) (cT hx j u e))) ?_;refine uF rfl (vT _ x (hxo.sat O) hxv hxc) ?_;rintro e w ⟨rfl,hT⟩;replace O:Sat _ _ _:=O.ag hT;clear hT;generalize h16:(fg x.d)=bb;cases bb
  ·refine u1 15 (aF rfl) ?_;refine aU ?_;have hok:fg x.d=false:=by simpa using h16
   have hst:fu (ahead none (rs.map RL.d) i) x.d=false:=by unfold fu;rw[hok];rfl
   have hf:cC (rs.map RL.d)=false:=dI (bO hx) hst;exact⟨by simp[hf],O.nil⟩
  ·refine u1 8 (aF rfl) ?_;refine aM 0 0 (db rfl rfl) ?_ ?_
   ·intro h19;refine uO 4 ?_;intro a I;refine bg [12] O (by kernel_rfl) ?_;replace O:=O.drew;refine rX [0,1] I ?_;clear I a;refine bA 2 [] rfl (fun w=>(aI (sb rfl rfl) (show _=Value.int .i64 ((i-1:Nat):Int) from congrArg (Value.int .i64) (by omega)))) ?_;obtain⟨y,hy⟩:∃zz_,rs[i-1]?=some zz_:=⟨_,List.getElem?_eq_getElem (by omega)⟩;have hyo:=hE y (List.mem_of_getElem? hy);obtain⟨hyv,hyc⟩:=hB.get hy;refine bA 3 [] rfl (fun w=>(ix rfl rfl dg cn)) ?_;refine cW 4 [5,6] rfl (by exact⟨[],O⟩) (fun w hT=>have O:=hT.sat;(ax (cs:=jb y) rfl k8 cn (fun j u e=>bI (hR.sat O) (cT hy j u e)))) ?_;refine bA 7 [] rfl (fun w=>(ix rfl rfl dg cn)) ?_;refine cW 8 [] rfl (by exact⟨[],O⟩) (fun w hT=>have O:=hT.sat;(ax (cs:=jb x) rfl k8 cn (fun j u e=>bI (hR.sat O) (cT hx j u e)))) ?_;intro a I
    refine np 9 10 (by kernel_rfl) ?_ ?_
    ·refine eN I rfl rfl mh O ?_;clear I a O;intro b4 w O;intro a I;refine⟨.inr fun _=>(by exact⟨[_],O⟩),?_⟩;refine aG 10 (by kernel_rfl) ?_;refine eN I rfl rfl mh O ?_;clear I a O;intro b5 w O;intro a I;refine⟨.inr fun _=>(by exact⟨[_,_],O⟩),?_⟩;refine aG 11 (by kernel_rfl) ?_;refine dr (vs:=[_,_,_]) (cs':=[_,_,_]) I rfl rfl rfl cn (by simp[Value.oneCell']) (O.p 1) rfl rfl ?_;clear O;intro w O;refine⟨.inr fun _=>(by exact⟨[_,_],O⟩),?_⟩;refine aG 12 (by kernel_rfl) ?_;refine dr (vs:=[_,_,_]) (cs':=[_,_,_]) I rfl rfl rfl cn (by simp[Value.oneCell']) (O.p 1) rfl rfl ?_;clear O;intro w O;refine⟨.inl rfl,?_⟩;refine ah (by kernel_rfl) ?_ _;refine rE 3 I ?_;clear I a;refine u1 0 (aa rfl bW) ?_;refine u1 0 (ld rfl) ?_;refine u1 0 (aa rfl bW) ?_;refine u1 0 (ld rfl) ?_;refine nk 0 0 (Ei rfl rfl) ?_ ?_
     ·intro h33;refine uO 29 ?_;refine aU ?_;have hok:fg x.d=true:=by simpa using h16
      have hst:fu (ahead none (rs.map RL.d) i) x.d=false:=by
       unfold fu ahead;rw[if_neg (by omega),bO hy,hok];unfold gJ RL.d;dsimp only;rw[Ca h33,if_neg (by decide)];rfl
      have hf:cC (rs.map RL.d)=false:=dI (bO hx) hst;exact⟨by simp[hf],O.nil⟩
     ·intro h33;refine uO 1 ?_;refine u1 0 (aa rfl bW) ?_;refine u1 0 (ld rfl) ?_;refine u1 0 (aa rfl bW) ?_;refine u1 0 (ld rfl) ?_;refine aM 0 0 (iM rfl rfl) ?_ ?_
      ·intro h39;refine uO 1 ?_;refine u1 0 (aa rfl bK) ?_;refine u1 0 (lS (cs:=[_,_]) rfl) ?_;refine u1 0 (aa rfl bK) ?_;refine u1 0 (lS (cs:=[_,_]) rfl) ?_;refine jL rfl (lr _ y.p x.p (hyo.sat O) (hxo.sat O) hyc hxc) ?_;rintro e w ⟨rfl,hT⟩;replace O:Sat _ _ _:=O.ag hT;clear hT;refine aM 0 0 (ek rfl rfl) ?_ ?_
       ·intro h46;refine uO 16 ?_;refine aU ?_;have hok:fg x.d=true:=by simpa using h16
        have hst:fu (ahead none (rs.map RL.d) i) x.d=false:=by
         unfold fu ahead;rw[if_neg (by omega),bO hy,hok];unfold gJ RL.d;dsimp only;rw[show yj y.cw x.cw=0 from qA.2 h39,if_pos rfl];simp;omega
        have hf:cC (rs.map RL.d)=false:=dI (bO hx) hst;exact⟨by simp[hf],O.nil⟩
       ·intro h46;refine uO 10 ?_;refine u1 2 (ad rfl rfl) ?_;intro a I;replace I:=I.kp [0,3] rfl;have hok:fg x.d=true:=by simpa using h16
        have hst:fu (ahead none (rs.map RL.d) i) x.d=true:=by
         unfold fu ahead;rw[if_neg (by omega),bO hy,hok];unfold gJ RL.d;dsimp only;rw[show yj y.cw x.cw=0 from qA.2 h39,if_pos rfl];simp;omega
        exact⟨rs.length-(i+1),by omega,i+1,I,O.nil,by omega,fun j z hj hz=>(by rcases Nat.lt_or_ge j i with h | h;exact he j z h hz;obtain rfl:j=i:=(by omega);rw[bO hx]at hz;cases hz;exact hst),rfl⟩
      ·intro h39;refine uO 17 ?_;refine u1 2 (ad rfl rfl) ?_;intro a I;replace I:=I.kp [0,3] rfl;have hok:fg x.d=true:=by simpa using h16
       have hst:fu (ahead none (rs.map RL.d) i) x.d=true:=by
        unfold fu ahead;rw[if_neg (by omega),bO hy,hok];unfold gJ RL.d;dsimp only;rw[BZ h33 h39,if_neg (by decide)];rfl
       exact⟨rs.length-(i+1),by omega,i+1,I,O.nil,by omega,fun j z hj hz=>(by rcases Nat.lt_or_ge j i with h | h;exact he j z h hz;obtain rfl:j=i:=(by omega);rw[bO hx]at hz;cases hz;exact hst),rfl⟩
    ·refine eN I rfl rfl mh O ?_;clear I a O;intro b5 w O;intro a I;refine⟨.inr fun _=>(by exact⟨[_],O⟩),?_⟩;refine aG 9 (by kernel_rfl) ?_;refine eN I rfl rfl mh O ?_;clear I a O;intro b4 w O;intro a I;refine⟨.inr fun _=>(by exact⟨[_,_],O⟩),?_⟩;refine aG 11 (by kernel_rfl) ?_;refine dr (vs:=[_,_,_]) (cs':=[_,_,_]) I rfl rfl rfl cn (by simp[Value.oneCell']) O rfl rfl ?_;clear O;intro w O;refine⟨.inr fun _=>(by exact⟨[_,_],O⟩),?_⟩;refine aG 12 (by kernel_rfl) ?_;refine dr (vs:=[_,_,_]) (cs':=[_,_,_]) I rfl rfl rfl cn (by simp[Value.oneCell']) (O.p 1) rfl rfl ?_;clear O;intro w O;refine⟨.inl rfl,?_⟩;refine ah (by kernel_rfl) ?_ _;refine rE 3 I ?_;clear I a;refine u1 0 (aa rfl bW) ?_;refine u1 0 (ld rfl) ?_;refine u1 0 (aa rfl bW) ?_;refine u1 0 (ld rfl) ?_;refine nk 0 0 (Ei rfl rfl) ?_ ?_
     ·intro h33;refine uO 29 ?_;refine aU ?_;have hok:fg x.d=true:=by simpa using h16
      have hst:fu (ahead none (rs.map RL.d) i) x.d=false:=by
       unfold fu ahead;rw[if_neg (by omega),bO hy,hok];unfold gJ RL.d;dsimp only;rw[Ca h33,if_neg (by decide)];rfl
      have hf:cC (rs.map RL.d)=false:=dI (bO hx) hst;exact⟨by simp[hf],O.nil⟩
     ·intro h33;refine uO 1 ?_;refine u1 0 (aa rfl bW) ?_;refine u1 0 (ld rfl) ?_;refine u1 0 (aa rfl bW) ?_;refine u1 0 (ld rfl) ?_;refine aM 0 0 (iM rfl rfl) ?_ ?_
      ·intro h39;refine uO 1 ?_;refine u1 0 (aa rfl bK) ?_;refine u1 0 (lS (cs:=[_,_]) rfl) ?_;refine u1 0 (aa rfl bK) ?_;refine u1 0 (lS (cs:=[_,_]) rfl) ?_;refine jL rfl (lr _ y.p x.p (hyo.sat O) (hxo.sat O) hyc hxc) ?_;rintro e w ⟨rfl,hT⟩;replace O:Sat _ _ _:=O.ag hT;clear hT;refine aM 0 0 (ek rfl rfl) ?_ ?_
       ·intro h46;refine uO 16 ?_;refine aU ?_;have hok:fg x.d=true:=by simpa using h16
        have hst:fu (ahead none (rs.map RL.d) i) x.d=false:=by
         unfold fu ahead;rw[if_neg (by omega),bO hy,hok];unfold gJ RL.d;dsimp only;rw[show yj y.cw x.cw=0 from qA.2 h39,if_pos rfl];simp;omega
        have hf:cC (rs.map RL.d)=false:=dI (bO hx) hst;exact⟨by simp[hf],O.nil⟩
       ·intro h46;refine uO 10 ?_;refine u1 2 (ad rfl rfl) ?_;intro a I;replace I:=I.kp [0,3] rfl;have hok:fg x.d=true:=by simpa using h16
        have hst:fu (ahead none (rs.map RL.d) i) x.d=true:=by
         unfold fu ahead;rw[if_neg (by omega),bO hy,hok];unfold gJ RL.d;dsimp only;rw[show yj y.cw x.cw=0 from qA.2 h39,if_pos rfl];simp;omega
        exact⟨rs.length-(i+1),by omega,i+1,I,O.nil,by omega,fun j z hj hz=>(by rcases Nat.lt_or_ge j i with h | h;exact he j z h hz;obtain rfl:j=i:=(by omega);rw[bO hx]at hz;cases hz;exact hst),rfl⟩
      ·intro h39;refine uO 17 ?_;refine u1 2 (ad rfl rfl) ?_;intro a I;replace I:=I.kp [0,3] rfl;have hok:fg x.d=true:=by simpa using h16
       have hst:fu (ahead none (rs.map RL.d) i) x.d=true:=by
        unfold fu ahead;rw[if_neg (by omega),bO hy,hok];unfold gJ RL.d;dsimp only;rw[BZ h33 h39,if_neg (by decide)];rfl
       exact⟨rs.length-(i+1),by omega,i+1,I,O.nil,by omega,fun j z hj hz=>(by rcases Nat.lt_or_ge j i with h | h;exact he j z h hz;obtain rfl:j=i:=(by omega);rw[bO hx]at hz;cases hz;exact hst),rfl⟩
   ·intro h19;refine uO 8 ?_;refine u1 2 (ad rfl rfl) ?_;intro a I;replace I:=I.kp [0,3] rfl;have hok:fg x.d=true:=by simpa using h16
    have hst:fu (ahead none (rs.map RL.d) i) x.d=true:=by
     obtain rfl:i=0:=by omega
     unfold fu ahead;rw[hok];rfl
    exact⟨rs.length-(i+1),by omega,i+1,I,O.nil,by omega,fun j z hj hz=>(by rcases Nat.lt_or_ge j i with h | h;exact he j z h hz;obtain rfl:j=i:=(by omega);rw[bO hx]at hz;cases hz;exact hst),rfl⟩
 ·intro h9;refine uO 14 ?_;refine aU ?_;obtain rfl:i=rs.length:=by omega
  have hf:cC (rs.map RL.d)=true:=df fun j x hx=>he j x (by have:=(List.getElem?_eq_some_iff.1 hx).1;simpa using this) hx
  exact⟨by simp[hf],O.nil⟩
theorem xn (W:World)(r:RL)(e1:aS)(hp:r.p.ok W)(hrv:r.p.d.vec.length≤1000000000000)(hrc:r.p.d.ab.length≤10000000000):Calls Tryz.prog 376 #[.agg #[.string r.cw,.slice r.p.va r.p.d.vec.length r.p.vc,.slice r.p.ca r.p.d.ab.length r.p.cc],.agg #[.int .i64 e1.rep,.int .i64 e1.num,.string e1.cw,.int .i64 e1.qb]] W fun e w'=>e=.returned (.bool (gQ r.d e1))∧Sat W w' []:=by
 refine bP Tryz.func376 [0,1] ?_;have O:=Sat.start W;refine uC 2 ?_;refine uB rfl O ?_;clear O;intro b2 w O;refine uB rfl O ?_;clear O;intro b3 w O;refine uO 5 ?_;refine u1 0 (aa rfl bW) ?_;refine u1 0 (ld rfl) ?_;refine aM 0 0 (iM rfl rfl) ?_ ?_
 ·intro h7;refine uO 8 ?_;refine u1 0 (aa rfl bK) ?_;refine u1 0 (lS (cs:=[_,_]) rfl) ?_;refine u1 0 (aa rfl cg) ?_;refine u1 0 (lS (cs:=[_,_]) rfl) ?_;refine jL rfl (wY _ r.p e1.rep e1.num (hp.sat O) hrv (by omega)) ?_;rintro e w ⟨rfl,hT⟩;replace O:Sat _ _ _:=O.ag hT;clear hT;refine uO 5 ?_;refine aU ?_;refine⟨?_,O.nil⟩;unfold gQ RL.d;dsimp only;rw[decide_eq_true h7];rfl
 ·intro h7;refine uO 1 ?_;refine u1 0 (aa rfl bW) ?_;refine u1 0 (ld rfl) ?_;refine u1 0 (aa rfl jw) ?_;refine u1 0 (ld rfl) ?_;refine aM 0 0 (iM rfl rfl) ?_ ?_
  ·intro h13;refine uO 2 ?_;refine u1 0 (aa rfl bK) ?_;refine u1 0 (lS (cs:=[_,_]) rfl) ?_;refine u1 0 (aa rfl cg) ?_;refine u1 0 (lS (cs:=[_,_]) rfl) ?_;refine jL rfl (wY _ r.p e1.rep e1.num (hp.sat O) hrv (by omega)) ?_;rintro e w ⟨rfl,hT⟩;replace O:Sat _ _ _:=O.ag hT;clear hT;refine uO 5 ?_;refine aU ?_;refine⟨?_,O.nil⟩;unfold gQ RL.d;dsimp only;rw[decide_eq_true h13];simp
  ·intro h13;refine uO 12 ?_;refine aU ?_;refine⟨?_,O.nil⟩;unfold gQ RL.d;dsimp only;rw[decide_eq_false h7,decide_eq_false h13];rfl
theorem vB (W:World)(r:RL)(e1:aS)(hp:r.p.ok W)(hrv:r.p.d.vec.length≤1000000000000)(hrc:r.p.d.ab.length≤10000000000):Calls Tryz.prog 238 #[.agg #[.string r.cw,.slice r.p.va r.p.d.vec.length r.p.vc,.slice r.p.ca r.p.d.ab.length r.p.cc],.agg #[.int .i64 e1.rep,.int .i64 e1.num,.string e1.cw,.int .i64 e1.qb]] W fun e w'=>e=.returned (.bool (gQ r.d e1))∧Sat W w' []:=by
 refine bP Tryz.func238 [0,1] ?_;have O:=Sat.start W;refine uC 2 ?_;refine uB rfl O ?_;clear O;intro b2 w O;refine uB rfl O ?_;clear O;intro b3 w O;refine uO 5 ?_;refine u1 0 (aa rfl bW) ?_;refine u1 0 (ld rfl) ?_;refine aM 0 0 (iM rfl rfl) ?_ ?_
 ·intro h7;refine uO 8 ?_;refine u1 0 (aa rfl bK) ?_;refine u1 0 (lS (cs:=[_,_]) rfl) ?_;refine u1 0 (aa rfl cg) ?_;refine u1 0 (lS (cs:=[_,_]) rfl) ?_;refine jL rfl (tT _ r.p e1.rep e1.num (hp.sat O) hrv (by omega)) ?_;rintro e w ⟨rfl,hT⟩;replace O:Sat _ _ _:=O.ag hT;clear hT;refine uO 5 ?_;refine aU ?_;refine⟨?_,O.nil⟩;unfold gQ RL.d;dsimp only;rw[decide_eq_true h7];rfl
 ·intro h7;refine uO 1 ?_;refine u1 0 (aa rfl bW) ?_;refine u1 0 (ld rfl) ?_;refine u1 0 (aa rfl jw) ?_;refine u1 0 (ld rfl) ?_;refine aM 0 0 (iM rfl rfl) ?_ ?_
  ·intro h13;refine uO 2 ?_;refine u1 0 (aa rfl bK) ?_;refine u1 0 (lS (cs:=[_,_]) rfl) ?_;refine u1 0 (aa rfl cg) ?_;refine u1 0 (lS (cs:=[_,_]) rfl) ?_;refine jL rfl (tT _ r.p e1.rep e1.num (hp.sat O) hrv (by omega)) ?_;rintro e w ⟨rfl,hT⟩;replace O:Sat _ _ _:=O.ag hT;clear hT;refine uO 5 ?_;refine aU ?_;refine⟨?_,O.nil⟩;unfold gQ RL.d;dsimp only;rw[decide_eq_true h13];simp
  ·intro h13;refine uO 12 ?_;refine aU ?_;refine⟨?_,O.nil⟩;unfold gQ RL.d;dsimp only;rw[decide_eq_false h7,decide_eq_false h13];rfl
abbrev sx (e:Nat)(A:Option Addr)(c:Nat)(rs:List RL):As:=row e 3 (.slice A rs.length c) rs.length (rs.flatMap jb)
abbrev gv (ei es:Nat)(rs:List RL):As:=br (rs.map fun x=>x.p.ch ei es)
theorem kE {W w:World}{L:List As}{ei es:Nat}{rs:List RL}(s:ByteArray)(q:PL)(h:Sat W w (cN ei q.va q.vc q.d.vec::bH es q.ca q.cc q.d.ab::gv ei es rs::L)):Sat W w (gv ei es (rs++[⟨s,q⟩])::L):=by
 have h1:Sat W w (q.ch ei es::gv ei es rs::L):=PL.D2 h;have h2:=h1.wj;unfold gv;rw[List.map_append];exact h2
theorem q8 {W w:World}{L:List As}{er ei es:Nat}{A:Option Addr}{c:Nat}{rs:List RL}(h:Sat W w (sx er A c rs::gv ei es rs::L)):Sat W w ((⟨A,c,rs⟩:jz).ch er ei es::L):=h.shut
def ki (rs:List bS)(e:aS):Nat:=(rs.filter fun r=>gQ r e).length
theorem tU {rs:List bS}{e:aS}:ki rs e=0↔bJ rs e=false:=by
 unfold ki bJ;rw[List.length_eq_zero_iff,List.filter_eq_nil_iff,List.any_eq_false]
theorem iz {α:Type}{p:α→Bool}{xs:List α}{i:Nat}{x:α}(h:xs[i]?=some x):(xs.take (i+1)).filter p=(xs.take i).filter p++if p x=true then [x] else []:=by
 rw[aA h,List.filter_append]
 congr 1
 by_cases hp:p x=true
 ·
  rw[if_pos hp];simp[hp]
 ·
  rw[if_neg hp];simp[hp]
theorem fE {l:List bS}(h:cC l=true):∀r∈l,fg r=true:=fun r hr=>by
 obtain⟨i,hi⟩:=List.mem_iff_getElem?.1 hr;have:=lH h i r hi;unfold fu at this;rw[Bool.and_eq_true]at this;exact this.1
theorem Cp {r:bS}(h:fg r=true):gU r.bB=r.bB:=by
 unfold fg bL at h;simp only[Bool.and_eq_true,decide_eq_true_eq]at h;exact h.2.1
theorem Ek:fZ (fun _=>[])=⟨[],[]⟩:=by
 unfold fZ
 have h1:∀k,cF (bh fun _=>[]) k=0:=by
  intro k
  induction k with
  | zero=>rfl
  | succ k ih=>rw[cF,ih];rfl
 rw[h1]
 congr 1
theorem Dd {f:Nat→List bn}(hf:∀r,can (f r))(h:eo (fZ f)=true):fZ f=⟨[],[]⟩:=by
 rw[←Ek];refine pL fun r hr=>?_;have h1:=(rn _).1 h r hr;rwa[jU hf hr]at h1
theorem u3 {ps:List aK}(h:eo (iH ps)=true):iH ps=⟨[],[]⟩:=Dd (fun r=>en _) h
structure oh (rs:List bS)(i:Nat)(out:List bS)(all:aK):Prop where
 Jg:∀e,bJ out e=bJ (rs.take i) e
 al:∀r n,hasB all r n=true→∃x∈out,x.cw={ data:=#[] }∧hasB x.bB r n=true
theorem Bg (rs:List bS):oh rs 0 [] ⟨[],[]⟩:=⟨fun e=>by simp[bJ],fun r n h=>by simp[hasB,iE,kq]at h⟩
theorem lY (a b:List bS)(e:aS):bJ (a++b) e=(bJ a e || bJ b e):=by unfold bJ;rw[List.any_append]
theorem kB {g:List bS}{s:ByteArray}(h:∀x∈g,x.cw=s)(e:aS):bJ g e=((decide (s={ data:=#[] }) || decide (s=e.cw)) && hasB (iH (g.map bS.bB)) e.rep e.num):=by
 rw[Dr];unfold bJ
 induction g with
 | nil=>simp
 | cons x g ih =>
   rw[List.any_cons,List.map_cons,List.any_cons,ih fun y hy=>h y (by simp[hy])];unfold gQ;rw[h x (by simp)];cases (decide (s={ data:=#[] }) || decide (s=e.cw))<;>simp
theorem oT {rs:List bS}{i j:Nat}(h:i≤j)(e:aS):bJ (rs.take j) e=(bJ (rs.take i) e || bJ ((rs.drop i).take (j-i)) e):=by
 rw[←lY]
 congr 1
 have:j=i+(j-i):=by omega
 conv=>lhs;rw[this,List.take_add]
theorem yN {rs out:List bS}{i j:Nat}{all:aK}(h:oh rs i out all)(hij:i≤j)(hg:∀x∈(rs.drop i).take (j-i),x.cw={ data:=#[] })(he:eo (iH (((rs.drop i).take (j-i)).map bS.bB))=false) :
 oh rs j (out++[⟨{ data:=#[] },iH (((rs.drop i).take (j-i)).map bS.bB)⟩]) (iH (((rs.drop i).take (j-i)).map bS.bB)):=by
 refine⟨fun e=>?_,fun r n hr=>⟨⟨{ data:=#[] },iH (((rs.drop i).take (j-i)).map bS.bB)⟩,List.mem_append_right _ (List.mem_singleton.2 rfl),rfl,hr⟩⟩;rw[lY,h.Jg,oT hij,kB hg];simp[bJ,gQ]
theorem vY {rs out:List bS}{i j:Nat}{all:aK}(h:oh rs i out all)(hij:i≤j)(hg:∀x∈(rs.drop i).take (j-i),x.cw={ data:=#[] })(he:eo (iH (((rs.drop i).take (j-i)).map bS.bB))=true) :
 oh rs j out (iH (((rs.drop i).take (j-i)).map bS.bB)):=by
 refine⟨fun e=>?_,fun r n hr=>?_⟩
 ·
  rw[h.Jg,oT hij,kB hg,pE he];simp
 ·
  rw[pE he]at hr;cases hr
theorem y2 {rs out:List bS}{i:Nat}{all:aK}(h:oh rs i out all){e:aS}(hr:hasB all e.rep e.num=true):bJ out e=true:=by
 obtain⟨x,hx,h1,h2⟩:=h.al _ _ hr;unfold bJ;rw[List.any_eq_true];exact⟨x,hx,by unfold gQ;rw[h1,h2];simp⟩
theorem yz {rs out:List bS}{i j:Nat}{all:aK}{s:ByteArray}(h:oh rs i out all)(hij:i≤j)(hs:¬s={ data:=#[] })(hg:∀x∈(rs.drop i).take (j-i),x.cw=s) :
 oh rs j (out++[⟨s,j0 (iH (((rs.drop i).take (j-i)).map bS.bB)) all⟩]) all:=by
 refine⟨fun e=>?_,fun r n hr=>?_⟩
 ·
  rw[lY,oT hij,kB hg,←h.Jg];cases ha:hasB all e.rep e.num with
  | true=>rw[y2 h ha];simp
  | false=>simp[bJ,gQ,tH,ha]
 ·
  obtain⟨x,hx,h1,h2⟩:=h.al r n hr;exact⟨x,by simp[hx],h1,h2⟩
theorem wZ {rs out:List bS}{i j:Nat}{all:aK}{s:ByteArray}(h:oh rs i out all)(hij:i≤j)(hg:∀x∈(rs.drop i).take (j-i),x.cw=s)(he:eo (j0 (iH (((rs.drop i).take (j-i)).map bS.bB)) all)=true)(hs:¬s={ data:=#[] }) :
 oh rs j out all:=by
 refine⟨fun e=>?_,h.al⟩;rw[oT hij,kB hg,←h.Jg];have h1:=pE he e.rep e.num;rw[tH]at h1;cases ha:hasB all e.rep e.num with
 | true=>rw[y2 h ha];simp
 | false=>rw[ha]at h1;simp at h1;simp[h1]
theorem AU (W:World)(A:Option Addr)(c:Nat)(rs:List RL)(e1:aS)(hR:fO W A c rs)(hE:∀r∈rs,r.p.ok W)(hB:dz 10000000000 rs)(hl:rs.length≤1000000000000):Calls Tryz.prog 359 #[.slice A (rs).length c,.agg #[.int .i64 e1.rep,.int .i64 e1.num,.string e1.cw,.int .i64 e1.qb]] W fun e w'=>e=.returned (.int .i64 ((ki (rs.map RL.d) e1:Nat):Int))∧Sat W w' []:=by
 refine bP Tryz.func359 [0,1] ?_;have O:=Sat.start W;refine uC 2 ?_;refine uB rfl O ?_;clear O;intro b3 w O;refine uO 12 ?_;refine u1 4 (ak rfl dg) ?_;intro a I;refine wp_loop_ghost (fun (mm:Nat) a w=>∃(i:Nat),Ag a 21 [(3,.pointer (some ⟨b3,0,none⟩)),(5,.int .i64 (((ki ((rs.map RL.d).take i) e1):Nat):Int)),(8,.slice A (rs).length c),(9,.int .i64 ((rs.length:Nat):Int)),(10,.int .i64 ((i:Nat):Int))]∧Sat W w ([aV b3 (.cells #[.int .i64 e1.rep,.int .i64 e1.num,.string e1.cw,.int .i64 e1.qb] 216)])∧(i≤rs.length)∧(ki ((rs.map RL.d).take i) e1≤i)∧mm=rs.length-i) rs.length ?_ ?_
 ·replace I:=I.kp [3,5,8,9,10] rfl;exact⟨0,I,O,(by omega),(by simp[ki]),by omega⟩
 intro m a w hI;clear O I;obtain⟨i,I,O,hi,hn,rfl⟩:=hI;refine rC 2 I ?_;clear I a;refine aM 0 0 (aq rfl rfl) ?_ ?_
 ·intro h11;refine uO 10 ?_;obtain⟨A_p,rfl⟩:∃q,A=some q:=(hR.sat O).ao (by omega);obtain⟨x,hx⟩:∃zz_,rs[i]?=some zz_:=⟨_,List.getElem?_eq_getElem (by omega)⟩;have hxo:=hE x (List.mem_of_getElem? hx);obtain⟨hxv,hxc⟩:=hB.get hx;refine u1 0 (ix rfl rfl dg cn) ?_;refine u1 0 (ax (cs:=jb x) rfl k8 cn (fun j u e=>bI (hR.sat O) (cT hx j u e))) ?_;refine uN mh O ?_;clear O;intro b7 w O;refine uW (vs:=[_,_,_]) (cs':=[_,_,_]) rfl rfl cn O ?_;clear O;intro w O;refine uO 4 ?_;refine u1 0 (lS (cs:=[_,_,_]) rfl) ?_;refine u1 0 (lS (cs:=[_,_,_,_]) rfl) ?_;refine uF rfl (xn _ x e1 (hxo.sat O) hxv hxc) ?_;rintro e w ⟨rfl,hT⟩;replace O:Sat _ _ _:=O.ag hT;clear hT;generalize h16:(gQ x.d e1)=bb;cases bb
  ·refine uO 7 ?_;refine u1 2 (ad rfl rfl) ?_;intro a I;replace I:=I.kp [3,5,8,9,10] rfl;have ef:ki ((rs.map RL.d).take (i+1)) e1=ki ((rs.map RL.d).take i) e1+0:=by unfold ki;rw[iz (bO hx),List.length_append,if_neg (by simp[h16])];rfl
   rw[show ki ((rs.map RL.d).take i) e1=ki ((rs.map RL.d).take (i+1)) e1 from ef.symm]at I;exact⟨rs.length-(i+1),by omega,i+1,I,O.drop,by omega,by omega,rfl⟩
  ·refine uO 5 ?_;refine u1 5 (ad rfl rfl) ?_;refine u1 2 (ad rfl rfl) ?_;intro a I;replace I:=I.kp [3,5,8,9,10] rfl;have ef:ki ((rs.map RL.d).take (i+1)) e1=ki ((rs.map RL.d).take i) e1+1:=by unfold ki;rw[iz (bO hx),List.length_append,if_pos h16];rfl
   rw[show ((ki ((rs.map RL.d).take i) e1:Nat):Int)+1=((ki ((rs.map RL.d).take (i+1)) e1:Nat):Int) from by rw[ef];rfl]at I;exact⟨rs.length-(i+1),by omega,i+1,I,O.drop,by omega,by omega,rfl⟩
 ·intro h11;refine uO 16 ?_;refine aU ?_;obtain rfl:i=rs.length:=by omega
  rw[List.take_of_length_le (by simp)];exact⟨rfl,O.nil⟩
theorem qk (W:World)(r:RL)(hp:r.p.ok W)(hrc:r.p.d.ab.length≤10000000000):Calls Tryz.prog 360 #[.agg #[.string r.cw,.slice r.p.va r.p.d.vec.length r.p.vc,.slice r.p.ca r.p.d.ab.length r.p.cc]] W fun e w'=>∃q:PL,e=.returned (.agg #[.string r.cw,.slice q.va q.d.vec.length q.vc,.slice q.ca q.d.ab.length q.cc])∧q.d=gU r.p.d∧Sat W w' [cN 3 q.va q.vc q.d.vec,bH 219 q.ca q.cc q.d.ab]:=by
 refine bP Tryz.func360 [0] ?_;have O:=Sat.start W;refine uC 2 ?_;refine uB rfl O ?_;clear O;intro b1 w O;refine uN mh O ?_;clear O;intro b2 w O;refine uO 3 ?_;intro a I;refine bg [6] O (by kernel_rfl) ?_;replace O:=O.drew;refine P1 0 [] I rfl (fun w=>(aa (I.ev rfl) bW)) ?_;clear I a;refine cW 1 [] rfl (by exact⟨[],O⟩) (fun w hT=>have O:=hT.sat;(ld rfl)) ?_;refine bA 2 [] rfl (fun w=>(aa rfl bK)) ?_;refine cW 3 [] rfl (by exact⟨[],O⟩) (fun w hT=>have O:=hT.sat;(lS (cs:=[_,_]) rfl)) ?_;intro a I;refine aG 4 (by kernel_rfl) ?_;refine eF I rfl rfl jF rfl (cq _ r.p (hp.sat O) hrc) ?_;clear I a;rintro e w ⟨q,rfl,hq,hT⟩;replace O:Sat _ _ (_::_::_):=O.ag hT;clear hT;refine⟨_,rfl,?_⟩;intro a I;refine⟨.inr fun _=>(by exact⟨[_,_],O⟩),?_⟩;refine P1 5 [] I rfl (fun w=>(aL I rfl kJ)) ?_;clear I a
 intro a I;refine aG 6 (by kernel_rfl) ?_;refine dr (vs:=[_,_,_]) (cs':=[_,_,_]) I rfl rfl rfl cn (by simp[Value.oneCell']) (O.p 2) rfl rfl ?_;clear O;intro w O;refine⟨.inl rfl,?_⟩;refine ah (by kernel_rfl) ?_ _;refine rE 2 I ?_;clear I a;intro a I;refine gP I rfl (dj (cs:=[_,_,_]) I rfl k8 cn (by exact O.aE (xs:=[_,_,_]) rfl)) ?_;exact⟨q,rfl,hq,oW ((O.p 2).p 2)⟩
theorem za (W:World)(A:Option Addr)(c:Nat)(rs:List RL)(p:PL)(hR:fO W A c rs)(hE:∀r∈rs,r.p.ok W)(hB:dz 10000000000 rs)(hl:rs.length≤1000000000000)(hp:p.ok W)(hpv:p.d.vec.length≤1000000000000)(hpc:p.d.ab.length≤10000000000)(hF:cC (rs.map RL.d)=true)(hN:bL p.d=true):Calls Tryz.prog 347 #[.slice A (rs).length c,.agg #[.slice p.va p.d.vec.length p.vc,.slice p.ca p.d.ab.length p.cc]] W fun e w'=>∃q:jz,e=.returned (.tuple #[.slice q.a q.rs.length q.c,.int .i64 0])∧q.d=(rs.map RL.d).filter (fun r=>!cj r.bB p.d)∧Sat W w' [q.ch 206 3 219]:=by
 refine bP Tryz.func347 [0,1] ?_;have O:=Sat.start W;refine uC 2 ?_;refine uB rfl O ?_;clear O;intro b3 w O;refine uO 8 ?_;refine uF rfl (fD _ A c rs (hR.sat O) (fun r h=>(hE r h).sat O) hB hl) ?_;rintro e w ⟨rfl,hT⟩;rw[if_pos hF];replace O:Sat _ _ _:=O.ag hT;clear hT;refine u1 1 (cQ (aD rfl rfl) (by omega)) ?_;refine u1 0 (lS (cs:=[_,_]) rfl) ?_;refine jL rfl (fC _ p (hp.sat O) hpc hpv) ?_;rintro e w ⟨rfl,hT⟩;rw[hN];replace O:Sat _ _ _:=O.ag hT;clear hT;refine u1 15 (aF rfl) ?_;refine u1 4 (ak rfl dg) ?_;intro a I
 refine wp_loop_ghost (fun (mm:Nat) a w=>∃(i:Nat) (out:List RL) (Ao:Option Addr) (co:Nat),Ag a 35 [(3,.pointer (some ⟨b3,0,none⟩)),(6,.slice Ao (out).length co),(17,.slice A (rs).length c),(18,.int .i64 ((rs.length:Nat):Int)),(19,.int .i64 ((i:Nat):Int))]∧Sat W w ([sx 206 Ao co out,gv 3 219 out,aV b3 (.cells #[.slice p.va p.d.vec.length p.vc,.slice p.ca p.d.ab.length p.cc] 63)])∧(i≤rs.length)∧(out.map RL.d=((rs.map RL.d).take i).filter (fun r=>!cj r.bB p.d))∧(out.length≤i)∧mm=rs.length-i) rs.length ?_ ?_
 ·replace I:=I.kp [3,6,17,18,19] rfl;exact⟨0,[],none,0,I,(O.lg.aW 206 3),(by omega),(by rfl),(by simp),by omega⟩
 intro m a w hI;clear O I;obtain⟨i,out,Ao,co,I,O,hi,ho,hol,rfl⟩:=hI;refine rC 2 I ?_;clear I a;refine aM 0 0 (aq rfl rfl) ?_ ?_
 ·intro h20;refine uO 10 ?_;obtain⟨A_p,rfl⟩:∃q,A=some q:=(hR.sat O).ao (by omega);obtain⟨x,hx⟩:∃zz_,rs[i]?=some zz_:=⟨_,List.getElem?_eq_getElem (by omega)⟩;have hxo:=hE x (List.mem_of_getElem? hx);obtain⟨hxv,hxc⟩:=hB.get hx;refine u1 0 (ix rfl rfl dg cn) ?_;refine u1 0 (ax (cs:=jb x) rfl k8 cn (fun j u e=>bI (hR.sat O) (cT hx j u e))) ?_;refine uN mh O ?_;clear O;intro b8 w O;refine uW (vs:=[_,_,_]) (cs':=[_,_,_]) rfl rfl cn O ?_;clear O;intro w O;refine uO 4 ?_;refine u1 0 (aa rfl bK) ?_;refine u1 0 (lS (cs:=[_,_]) rfl) ?_;refine u1 0 (lS (cs:=[_,_]) rfl) ?_;refine uF rfl (pn _ x.p p (hxo.sat O) (hp.sat O) hxc hpc) ?_;rintro e w ⟨rfl,hT⟩;replace O:Sat _ _ _:=O.ag hT;clear hT;generalize h26:(cj x.p.d p.d)=bb;cases bb
  ·refine u1 5 (aF rfl) ?_;refine u1 0 (lS (cs:=[_,_,_]) rfl) ?_;refine uF rfl (qk _ x (hxo.sat O) hxc) ?_;rintro e w ⟨q,rfl,hq,hT⟩;replace O:Sat _ _ (_::_::_):=O.ag hT;clear hT;intro a I;refine jl (vss:=[[_,_,_]]) I rfl rfl dg nE rfl rfl rfl (by simp) rfl O ?_;clear I a O;intro A31 w O;intro a I;refine cZ I rfl rfl rfl dg nE rfl (O.p 4) (O.rd.src dg (by simp[Value.oneCell'])) (by omega) (by omega) ?_;clear I a O;intro A32 c32 w hc32 O;refine uO 5 ?_;refine u1 2 (ad rfl rfl) ?_;intro a I;replace I:=I.kp [3,6,17,18,19] rfl;have ef:=iz (p:=fun r=>!cj r.bB p.d) (bO hx);rw[if_pos (by rw[show cj x.d.bB p.d=false from h26];rfl)]at ef;have hxn:gU x.p.d=x.p.d:=Cp (fE hF x.d (List.mem_of_getElem? (bO hx)));have el:out.length+1=(out++[(⟨x.cw,q⟩:RL)]).length:=by simp
   have hS2:=gL O el (cs':=(out++[(⟨x.cw,q⟩:RL)]).flatMap jb) (by rw[List.flatMap_append];rfl);have hS3:=kE x.cw q (((hS2.p 5).p 4).p 4);rw[el]at I;refine⟨rs.length-(i+1),by omega,i+1,out++[(⟨x.cw,q⟩:RL)],A32,c32,I,nJ (((hS3.p 4).p 1).p 2),by omega,?_,by simp;omega,rfl⟩;rw[List.map_append,ho,ef]
   congr 1
   show [(⟨x.cw,q.d⟩:bS)]=[⟨x.cw,x.p.d⟩];rw[hq,hxn]
  ·refine u1 7 (aF rfl) ?_;refine u1 2 (ad rfl rfl) ?_;intro a I;replace I:=I.kp [3,6,17,18,19] rfl;have ef:=iz (p:=fun r=>!cj r.bB p.d) (bO hx);rw[if_neg (by rw[show cj x.d.bB p.d=true from h26];simp),List.append_nil]at ef;exact⟨rs.length-(i+1),by omega,i+1,out,Ao,co,I,O.drop,by omega,by rw[ef];exact ho,by omega,rfl⟩
 ·intro h20;refine uO 9 ?_;intro a I;replace I:=I.kp [6] rfl;refine rC 8 I ?_;clear I a;refine fx ?_;obtain rfl:i=rs.length:=by omega
  rw[List.take_of_length_le (by simp)]at ho;exact⟨⟨Ao,co,out⟩,rfl,ho,cu (q8 O)⟩
theorem zV {α:Type}{rs:List α}{i j:Nat}{y:α}(hy:rs[j]?=some y)(h:i≤j):(rs.drop i).take (j+1-i)=(rs.drop i).take (j-i)++[y]:=by
 have h1:(rs.drop i)[j-i]?=some y:=by rw[List.getElem?_drop,show i+(j-i)=j from by omega];exact hy
 rw[show j+1-i=(j-i)+1 from by omega,aA h1]
theorem Gc {W w:World}{L:List As}{ei es:Nat}{out:List RL}{al:PL}(h:al.d=⟨[],[]⟩∨∃x∈out,x.p=al)(s:Sat W w (gv ei es out::L)):al.ok w:=by
 rcases h with h | ⟨x,hx,rfl⟩
 ·
  obtain⟨va,vc,ca,cc,d⟩:=al;simp only at h;subst h;exact⟨⟨va,vc,rfl,Nat.zero_le _,rfl,.inl rfl⟩,⟨ca,cc,rfl,Nat.zero_le _,rfl,.inl rfl⟩⟩
 ·
  exact u0 s x hx
theorem Ee {W w:World}{L:List As}{ei es i:Nat}{rs:List RL}{x:RL}(s:ByteArray)(q:PL)(hx:rs[i]?=some x)(h:Sat W w (cN ei q.va q.vc q.d.vec::bH es q.ca q.cc q.d.ab::gv ei es rs::L)):Sat W w (gv ei es (rs.set i ⟨s,q⟩)::L):=by
 have h1:Sat W w (q.ch ei es::gv ei es rs::L):=PL.D2 h;have hm:(rs.map fun x=>x.p.ch ei es)[i]?=some (x.p.ch ei es):=by rw[List.getElem?_map,hx];rfl
 have h2:=(h1.p 1).dJ hm;have h3:=((h2.p 1).p 2).vt (by rw[List.length_map];exact (List.getElem?_eq_some_iff.1 hx).1);unfold gv;rw[List.map_set];exact (h3.p 1).drop
theorem sH (a b:List aK):cP (a++b)=cP a+cP b:=by unfold cP;rw[List.map_append,List.sum_append]
theorem yH (ps:List aK)(i k:Nat):cP ((ps.drop i).take k)≤cP ps:=by
 have h1:cP ps=cP (ps.take i)+cP (ps.drop i):=by rw[←sH,List.take_append_drop]
 have h2:cP (ps.drop i)=cP ((ps.drop i).take k)+cP ((ps.drop i).drop k):=by rw[←sH,List.take_append_drop]
 omega
theorem qx (ps:List aK):ps.length≤cP ps:=by
 induction ps with
 | nil=>simp
 | cons p ps ih=>unfold cP at *;rw[List.map_cons,List.sum_cons,List.length_cons];omega
theorem zj (ps:List aK):(iH ps).ab.length≤16 * cP ps:=by
 refine qU (fun r _=>?_) 16 (Nat.le_refl _);refine Nat.le_trans (cH _) ?_;have:=kA ps r;unfold gl at this;exact this
theorem yp (ps:List aK):zr (iH ps):=vd fun r=>en _
theorem uA (a b:aK):zr (j0 a b):=vd fun r=>kM (bx a r) (bx b r)
theorem yP {α:Type}:∀ {l:List α} {i:Nat} {v:α},l[i]?=some v→l.set i v=l
 | [],i,v,h=>by simp at h
 | a::l,0,v,h=>by simp at h;subst h;rfl
 | a::l,i+1,v,h=>by rw[List.set_cons_succ,yP (by simpa using h)]
theorem FG {rs:List RL}{i:Nat}{x:RL}{q:PL}(hx:rs[i]?=some x)(hq:q.d=gU x.p.d)(e:aS):bJ ((rs.set i ⟨x.cw,q⟩).map RL.d) e=bJ (rs.map RL.d) e:=by
 have hc:gQ (RL.d ⟨x.cw,q⟩) e=gQ x.d e:=by unfold gQ RL.d;dsimp only;rw[hq,C0]
 unfold bJ;rw[List.any_map,List.any_map]
 have hm:(rs.set i ⟨x.cw,q⟩).map ((fun r=>gQ r e) ∘ RL.d)=rs.map ((fun r=>gQ r e) ∘ RL.d):=by
  rw[List.map_set,show ((fun r=>gQ r e) ∘ RL.d) ⟨x.cw,q⟩=((fun r=>gQ r e) ∘ RL.d) x from hc];have h1:(rs.map ((fun r=>gQ r e) ∘ RL.d))[i]?=some (((fun r=>gQ r e) ∘ RL.d) x):=by rw[List.getElem?_map,hx];rfl
  exact yP h1
 have ha:∀l:List RL,l.any ((fun r=>gQ r e) ∘ RL.d)=(l.map ((fun r=>gQ r e) ∘ RL.d)).any id:=fun l=>by rw[List.any_map];rfl
 rw[ha,ha,hm]
theorem AZ (W:World)(A:Option Addr)(c:Nat)(rs:List RL)(hR:fO W A c rs)(hE:∀r∈rs,r.p.ok W)(hB:dz 10000000000 rs)(hl:rs.length≤1000000000000)(hs:cP (rs.map fun r=>r.p.d)≤16777216)(hF:cC (rs.map RL.d)=true):Calls Tryz.prog 358 #[.slice A (rs).length c] W fun e w'=>∃q:jz,e=.returned (.tuple #[.slice q.a q.rs.length q.c,.int .i64 0])∧(∀e2,bJ q.d e2=bJ (rs.map RL.d) e2)∧dz 10000000000 q.rs∧q.rs.length≤1000000000000∧Sat W w' [q.ch 206 3 219]:=by
 refine bP Tryz.func358 [0] ?_;have O:=Sat.start W;have hrl:=qx (rs.map fun r=>r.p.d);intro a I;rw[List.length_map]at hrl;refine rC 10 I ?_;clear I a;refine uF rfl (fD _ A c rs (hR.sat O) (fun r h=>(hE r h).sat O) hB hl) ?_;rintro e w ⟨rfl,hT⟩;rw[if_pos hF];replace O:Sat _ _ _:=O.ag hT;clear hT;refine u1 7 (cQ (aD rfl rfl) (by omega)) ?_;refine uN dN O ?_;clear O;intro b4 w O;refine uO 14 ?_;intro a I
 refine wp_loop_ghost (fun (mm:Nat) a w=>∃(i:Nat) (out:List RL) (Ao:Option Addr) (co:Nat) (al:PL),Ag a 89 [(0,.slice A (rs).length c),(4,.pointer (some ⟨b4,0,none⟩)),(5,.slice Ao (out).length co),(6,.int .i64 ((i:Nat):Int))]∧Sat W w ([aV b4 (.cells #[.slice al.va al.d.vec.length al.vc,.slice al.ca al.d.ab.length al.cc] 63),sx 206 Ao co out,gv 3 219 out])∧(i≤rs.length)∧(oh (rs.map RL.d) i (out.map RL.d) al.d)∧(out.length≤i)∧(∀x∈out,x.p.d.vec.length≤16∧x.p.d.ab.length≤9900000000∧(x.cw={ data:=#[] }→x.p.d.ab.length≤300000000))∧(al.d=⟨[],[]⟩∨∃x∈out,x.p=al)∧(al.d.ab.length≤300000000)∧mm=rs.length-i) rs.length ?_ ?_
 ·replace I:=I.kp [0,4,5,6] rfl;exact⟨0,[],none,0,⟨none,0,none,0,⟨[],[]⟩⟩,I,((O.lg.aW 206 3).p 2),(by omega),(by exact Bg _),(by simp),(by intro x hx;cases hx),(by exact .inl rfl),(by simp),by omega⟩
 intro m a w hI;clear O I;obtain⟨i,out,Ao,co,al,I,O,hi,hF1,hol,hsm,hal,hac,rfl⟩:=hI;refine rC 5 I ?_;clear I a;refine u1 0 (ak rfl dg) ?_;refine aM 0 0 (aq rfl rfl) ?_ ?_
 ·intro h16;obtain⟨x0,hx0⟩:∃x,rs[i]?=some x:=⟨_,List.getElem?_eq_getElem (by omega)⟩;obtain⟨A_p,rfl⟩:∃q,A=some q:=(hR.sat O).ao (by omega);refine uO 19 ?_;intro a I;refine wp_loop_ghost (fun (mm:Nat) a w=>∃(j:Nat) (ps:List PL) (Ap:Option Addr) (cp:Nat),Ag a 89 [(0,.slice (some A_p) (rs).length c),(4,.pointer (some ⟨b4,0,none⟩)),(5,.slice Ao (out).length co),(6,.int .i64 ((i:Nat):Int)),(7,.int .i64 ((j:Nat):Int)),(8,.slice Ap (ps).length cp)]∧Sat W w ([row 63 2 (.slice Ap ps.length cp) ps.length (ps.flatMap om),aV b4 (.cells #[.slice al.va al.d.vec.length al.vc,.slice al.ca al.d.ab.length al.cc] 63),sx 206 Ao co out,gv 3 219 out])∧(i≤j)∧(j≤rs.length)∧(ps=((rs.drop i).take (j-i)).map RL.p)∧(∀x∈(((rs.drop i).take (j-i)).map RL.d),x.cw=x0.cw)∧mm=rs.length-j) (rs.length-i) ?_ ?_
  ·replace I:=I.kp [0,4,5,6,7,8] rfl;exact⟨i,[],none,0,I,(O.aW 63 2),(by omega),(by omega),(by simp),(by simp),by omega⟩
  intro m a w hI;clear O I;obtain⟨j,ps,Ap,cp,I,O,hij,hj,hps,hsk,rfl⟩:=hI;refine rC 2 I ?_;clear I a;intro a I;refine cK (fun w'=>Sat _ w' _) (by kernel_rfl) (by kernel_rfl) O.drew ?_;refine rQ 2 I ?_;clear I a;refine bp 0 (fun w O=>(ak rfl dg)) ?_;intro a I;refine K.sr I rfl rfl rfl (fun w O=>(aq (I.ev rfl) (I.ev rfl))) ?_ ?_
  ·clear I a;intro h21;refine uQ 3 ?_;obtain⟨y,hy⟩:∃zz_,rs[j]?=some zz_:=⟨_,List.getElem?_eq_getElem (by omega)⟩;refine bp 0 (fun w O=>(ix rfl rfl dg cn)) ?_;refine bp 0 (fun w O=>(aw rfl bW)) ?_;refine bp 2 (fun w O=>(an rfl DK (bI (hR.sat O) (cT hy 0 _ rfl)))) ?_;refine bp 0 (fun w O=>(ix rfl rfl dg cn)) ?_;refine bp 0 (fun w O=>(aw rfl bW)) ?_;refine bp 0 (fun w O=>(an rfl DK (bI (hR.sat O) (cT hx0 0 _ rfl)))) ?_;intro a I;refine K.o0 I (aT I rfl rfl rfl) rfl rfl (fun w O=>(iM (I.ev rfl) (I.ev rfl))) ?_ ?_
   ·clear I a;intro h33;refine uQ 1 ?_;intro a I;refine wpQuiet_nil ?_;clear O;intro w O;refine rE 7 I ?_;clear I a;have hpl:ps.length≤rs.length:=(by rw[hps];simp;omega);refine uO 3 ?_;refine u1 0 (ix rfl rfl dg cn) ?_;refine u1 0 (aw rfl bK) ?_;refine u1 0 (ax (cs:=[.slice y.p.va y.p.d.vec.length y.p.vc,.slice y.p.ca y.p.d.ab.length y.p.cc]) rfl fy bj (fun j u e=>lq (hR.sat O) (cT hy _ u (nO y j u e)))) ?_;intro a I;refine jl (vss:=[[_,_]]) I rfl rfl fN pA rfl rfl rfl (by simp) rfl O ?_;clear I a O;intro A41 w O;intro a I;refine cZ I rfl rfl rfl fN pA rfl (O.p 1) (O.rd.src fN (by simp[Value.oneCell'])) (by omega) (by omega) ?_;clear I a O;intro A42 c42 w hc42 O;refine uO 5 ?_;refine u1 3 (ad rfl rfl) ?_;intro a I;replace I:=I.kp [0,4,5,6,7,8] rfl
    have ep:ps++[y.p]=((rs.drop i).take (j+1-i)).map RL.p:=by rw[zV hy hij,List.map_append,←hps];rfl
    have el:ps.length+1=(ps++[y.p]).length:=by simp
    have hS2:=gL O el (cs':=(ps++[y.p]).flatMap om) (by rw[List.flatMap_append];rfl);rw[el]at I;refine⟨rs.length-(j+1),by omega,j+1,ps++[y.p],A42,c42,I,BU ((((hS2.p 4).p 4).p 4).p 3),by omega,by omega,ep,?_,rfl⟩;rw[zV hy hij,List.map_append];intro z hz;rcases List.mem_append.1 hz with hz | hz
    ·exact hsk z hz
    ·simp at hz;subst hz;exact h33
   ·clear I a;intro h33;have hjlt:i<j:=(by rcases Nat.lt_or_ge i j with h | h;exact h;obtain rfl:j=i:=(by omega);rw[hx0]at hy;cases hy;exact absurd rfl h33);have hEp:∀p∈ps,p.ok W:=fun p hp=>(by rw[hps]at hp;obtain⟨x,hx,rfl⟩:=List.mem_map.1 hp;exact hE x (List.mem_of_mem_drop (List.mem_of_mem_take hx)))
    have hsp:cP (ps.map PL.d)≤16777216:=(by rw[hps,List.map_map];refine Nat.le_trans ?_ hs;rw[List.map_take,List.map_drop];exact yH _ _ _);have hpl:ps.length≤rs.length:=(by rw[hps];simp;omega);refine uQ 1 ?_;intro a I;refine wpQuiet_nil ?_;clear O;intro w O;refine rE 7 I ?_;clear I a;intro a I;refine cf (fun a w=>∃(b9:Nat) (q:PL),Ag a 89 [(0,.slice (some A_p) (rs).length c),(4,.pointer (some ⟨b4,0,none⟩)),(5,.slice Ao (out).length co),(7,.int .i64 ((j:Nat):Int)),(9,.pointer (some ⟨b9,0,none⟩))]∧Sat W w ([aV b9 (.cells #[.string x0.cw,.slice q.va q.d.vec.length q.vc,.slice q.ca q.d.ab.length q.cc] 206),cN 3 q.va q.vc q.d.vec,bH 219 q.ca q.cc q.d.ab,aV b4 (.cells #[.slice al.va al.d.vec.length al.vc,.slice al.ca al.d.ab.length al.cc] 63),sx 206 Ao co out,gv 3 219 out])∧(q.d=(iH (ps.map PL.d)))) ?_ ?_
    ·refine bg [9] O (by kernel_rfl) ?_;replace O:=O.drew;refine rX [0,1] I ?_;clear I a;refine bA 2 [] rfl (fun w=>(ix rfl rfl dg cn)) ?_;refine bA 3 [] rfl (fun w=>(aw rfl bW)) ?_;refine cW 4 [5] rfl (by exact⟨[],O⟩) (fun w hT=>have O:=hT.sat;(an rfl DK (bI (hR.sat O) (cT hx0 0 _ rfl)))) ?_;intro a I;refine np 6 8 (by kernel_rfl) ?_ ?_
     ·refine eF I rfl rfl BN rfl (lQ _ Ap cp ps (by exact O.rd) (fun p hp=>(hEp p hp).sat O) (by omega) (by omega)) ?_;clear I a;rintro e w ⟨q,rfl,hq,hT⟩;replace O:Sat _ _ (_::_::_):=O.ag hT;clear hT;refine⟨_,rfl,?_⟩;intro a I;refine⟨.inr fun _=>(by exact⟨[_,_],O⟩),?_⟩;refine P1 7 [] I rfl (fun w=>(aL I rfl kJ)) ?_;clear I a;intro a I;refine aG 8 (by kernel_rfl) ?_;refine eN I rfl rfl mh O ?_;clear I a O;intro b9 w O;intro a I;refine⟨.inr fun _=>(by exact⟨[_,_,_],O⟩),?_⟩;refine aG 9 (by kernel_rfl) ?_;refine dr (vs:=[_,_,_]) (cs':=[_,_,_]) I rfl rfl rfl cn (by simp[Value.oneCell']) O rfl rfl ?_;clear O;intro w O;refine⟨.inl rfl,?_⟩;refine ah (by kernel_rfl) ?_ _;replace I:=I.kp [0,4,5,7,9] rfl
      first
       | exact⟨b9,q,I,((((((O.p 6).p 6).p 6).p 5).p 5).p 5).de [_,_,_,_,_,_],(by exact hq)⟩
     ·refine eN I rfl rfl mh O ?_;clear I a O;intro b9 w O;intro a I;refine⟨.inr fun _=>(by exact⟨[_],O⟩),?_⟩;refine aG 6 (by kernel_rfl) ?_;refine eF I rfl rfl BN rfl (lQ _ Ap cp ps (by exact (O.p 1).rd) (fun p hp=>(hEp p hp).sat O) (by omega) (by omega)) ?_;clear I a;rintro e w ⟨q,rfl,hq,hT⟩;replace O:Sat _ _ (_::_::_):=O.ag hT;clear hT;refine⟨_,rfl,?_⟩;intro a I;refine⟨.inr fun _=>(by exact⟨[_,_,_],O⟩),?_⟩;refine P1 7 [] I rfl (fun w=>(aL I rfl kJ)) ?_;clear I a;intro a I;refine aG 9 (by kernel_rfl) ?_;refine dr (vs:=[_,_,_]) (cs':=[_,_,_]) I rfl rfl rfl cn (by simp[Value.oneCell']) (O.p 2) rfl rfl ?_;clear O;intro w O;refine⟨.inl rfl,?_⟩;refine ah (by kernel_rfl) ?_ _;replace I:=I.kp [0,4,5,7,9] rfl
      first
       | exact⟨b9,q,I,((((((O.p 6).p 6).p 6).p 5).p 5).p 5).de [_,_,_,_,_,_],(by exact hq)⟩
    ·intro a w hI;clear O I;obtain⟨b9,q,I,O,hq⟩:=hI;have hgp:ps.map PL.d=(((rs.drop i).take (j-i)).map RL.d).map bS.bB:=by rw[hps];simp[List.map_map,Function.comp_def,RL.d]
     have hqc:=yp (ps.map PL.d);rw[←hq]at hqc;have hqv:=hqc.len;have hql:=zj (ps.map PL.d);rw[←hq]at hql;have hgl:(((rs.drop i).take (j-i)).map RL.d)=((rs.map RL.d).drop i).take (j-i):=by rw[List.map_take,List.map_drop]
     rw[hgp,hgl]at hq;rw[hgl]at hsk;refine rC 3 I ?_;clear I a;refine u1 0 (aa rfl bW) ?_;refine u1 0 (ld rfl) ?_;refine aM 0 0 (iM rfl rfl) ?_ ?_
     ·intro h55;refine uO 4 ?_;refine u1 0 (aa rfl bK) ?_;refine u1 0 (lS (cs:=[_,_]) rfl) ?_;refine uW (vs:=[_,_]) (cs':=[_,_]) rfl rfl bj (O.p 3) ?_;clear O;intro w O;refine uO 5 ?_;refine u1 0 (aa rfl bK) ?_;refine u1 0 (lS (cs:=[_,_]) rfl) ?_;refine uF rfl (gE _ q ⟨(O.p 2).rd,(O.p 3).rd⟩ (by omega)) ?_;rintro e w ⟨rfl,hT⟩;replace O:Sat _ _ _:=O.ag hT;clear hT;generalize h65:(eo q.d)=bb;cases bb
      ·refine u1 5 (aF rfl) ?_;refine u1 0 (lS (cs:=[_,_,_]) rfl) ?_;intro a I;refine jl (vss:=[[_,_,_]]) I rfl rfl dg nE rfl rfl rfl (by simp) rfl O ?_;clear I a O;intro A69 w O;intro a I;refine cZ I rfl rfl rfl dg nE rfl (O.p 5) (O.rd.src dg (by simp[Value.oneCell'])) (by omega) (by omega) ?_;clear I a O;intro A70 c70 w hc70 O;refine uO 8 ?_;intro a I;replace I:=I.kp [0,4,5,6] rfl;have hsk0:∀x∈((rs.map RL.d).drop i).take (j-i),x.cw={ data:=#[] }:=fun x hx=>(hsk x hx).trans h55
       have el:out.length+1=(out++[(⟨x0.cw,q⟩:RL)]).length:=by simp
       have hS2:=gL O el (cs':=(out++[(⟨x0.cw,q⟩:RL)]).flatMap jb) (by rw[List.flatMap_append];rfl);have hS3:=kE x0.cw q ((((hS2.p 2).p 6).p 6).p 6);rw[el]at I;have hF2:=yN hF1 hij hsk0 (by rw[←hq];exact h65);rw[←hq,←h55]at hF2;refine⟨rs.length-j,by omega,j,out++[(⟨x0.cw,q⟩:RL)],A70,c70,q,I,nJ ((hS3.p 2).p 2),hj,?_,by simp;omega,fun x hx=>(by rcases List.mem_append.1 hx with hx | hx;exact hsm x hx;simp at hx;subst hx;exact⟨by dsimp only;omega,by dsimp only;omega,fun _=>(by dsimp only;omega)⟩),?_,by omega,rfl⟩
       ·rw[List.map_append];exact hF2
       ·exact .inr ⟨_,List.mem_append_right _ (List.mem_singleton.2 rfl),rfl⟩
      ·refine u1 10 (aF rfl) ?_;intro a I;replace I:=I.kp [0,4,5,6] rfl;have hsk0:∀x∈((rs.map RL.d).drop i).take (j-i),x.cw={ data:=#[] }:=fun x hx=>(hsk x hx).trans h55
       rw[hq]at h65;have hqe:q.d=⟨[],[]⟩:=by rw[hq];exact u3 h65
       have hF2:=vY hF1 hij hsk0 h65;rw[←hq]at hF2;exact⟨rs.length-j,by omega,j,out,Ao,co,q,I,nJ (((O.p 5).p 5).p 2),hj,hF2,by omega,hsm,.inl hqe,by rw[hqe];simp,rfl⟩
     ·intro h55;refine uO 4 ?_;refine u1 0 (aa rfl bK) ?_;refine u1 0 (lS (cs:=[_,_]) rfl) ?_;refine u1 0 (lS (cs:=[_,_]) rfl) ?_;refine uF rfl (qP _ q al ⟨(O.p 1).rd,(O.p 2).rd⟩ (Gc hal (O.p 5)) (by omega) (by omega)) ?_;rintro e w ⟨z,rfl,hz,hT⟩;replace O:Sat _ _ (_::_::_):=O.ag hT;clear hT;have hzv:=(uA q.d al.d).len;rw[←hz]at hzv;have hzl:=rp q.d al.d;rw[←hz]at hzl;refine u1 0 (aa rfl bK) ?_;refine uW (vs:=[_,_]) (cs':=[_,_,_]) rfl rfl bj (O.p 2) ?_;clear O;intro w O;refine uO 5 ?_;refine u1 0 (aa rfl bK) ?_;refine u1 0 (lS (cs:=[_,_]) rfl) ?_;refine uF rfl (gE _ z ⟨(O.p 1).rd,(O.p 2).rd⟩ (by omega)) ?_;rintro e w ⟨rfl,hT⟩;replace O:Sat _ _ _:=O.ag hT;clear hT;generalize h65:(eo z.d)=bb;cases bb
      ·refine u1 5 (aF rfl) ?_;refine u1 0 (lS (cs:=[_,_,_]) rfl) ?_;intro a I;refine jl (vss:=[[_,_,_]]) I rfl rfl dg nE rfl rfl rfl (by simp) rfl O ?_;clear I a O;intro A69 w O;intro a I;refine cZ I rfl rfl rfl dg nE rfl (O.p 7) (O.rd.src dg (by simp[Value.oneCell'])) (by omega) (by omega) ?_;clear I a O;intro A70 c70 w hc70 O;refine uO 8 ?_;intro a I;replace I:=I.kp [0,4,5,6] rfl;have el:out.length+1=(out++[(⟨x0.cw,z⟩:RL)]).length:=by simp
       have hS2:=gL O el (cs':=(out++[(⟨x0.cw,z⟩:RL)]).flatMap jb) (by rw[List.flatMap_append];rfl);have hS3:=kE x0.cw z ((((hS2.p 7).p 8).p 6).p 6);rw[el]at I;have hF2:=yz (s:=x0.cw) hF1 hij h55 hsk;rw[←hq,←hz]at hF2;refine⟨rs.length-j,by omega,j,out++[(⟨x0.cw,z⟩:RL)],A70,c70,al,I,nJ ((hS3.p 2).p 2),hj,?_,by simp;omega,fun x hx=>(by rcases List.mem_append.1 hx with hx | hx;exact hsm x hx;simp at hx;subst hx;exact⟨by dsimp only;omega,by dsimp only;omega,fun h=>absurd h h55⟩),?_,by omega,rfl⟩
       ·rw[List.map_append];exact hF2
       ·rcases hal with h | ⟨x,hx,h⟩
        ·exact .inl h
        ·exact .inr ⟨x,List.mem_append_left _ hx,h⟩
      ·refine u1 10 (aF rfl) ?_;intro a I;replace I:=I.kp [0,4,5,6] rfl;rw[hz,hq]at h65;have hF2:=wZ hF1 hij hsk h65 h55;exact⟨rs.length-j,by omega,j,out,Ao,co,al,I,nJ (((O.p 7).p 7).p 7),hj,hF2,by omega,hsm,hal,hac,rfl⟩
  ·clear I a;intro h21;have hjlt:i<j:=(by omega);have hEp:∀p∈ps,p.ok W:=fun p hp=>(by rw[hps]at hp;obtain⟨x,hx,rfl⟩:=List.mem_map.1 hp;exact hE x (List.mem_of_mem_drop (List.mem_of_mem_take hx)))
   have hsp:cP (ps.map PL.d)≤16777216:=(by rw[hps,List.map_map];refine Nat.le_trans ?_ hs;rw[List.map_take,List.map_drop];exact yH _ _ _);have hpl:ps.length≤rs.length:=(by rw[hps];simp;omega);refine uQ 13 ?_;intro a I;refine wpQuiet_nil ?_;clear O;intro w O;refine rE 7 I ?_;clear I a;intro a I;refine cf (fun a w=>∃(b9:Nat) (q:PL),Ag a 89 [(0,.slice (some A_p) (rs).length c),(4,.pointer (some ⟨b4,0,none⟩)),(5,.slice Ao (out).length co),(7,.int .i64 ((j:Nat):Int)),(9,.pointer (some ⟨b9,0,none⟩))]∧Sat W w ([aV b9 (.cells #[.string x0.cw,.slice q.va q.d.vec.length q.vc,.slice q.ca q.d.ab.length q.cc] 206),cN 3 q.va q.vc q.d.vec,bH 219 q.ca q.cc q.d.ab,aV b4 (.cells #[.slice al.va al.d.vec.length al.vc,.slice al.ca al.d.ab.length al.cc] 63),sx 206 Ao co out,gv 3 219 out])∧(q.d=(iH (ps.map PL.d)))) ?_ ?_
   ·refine bg [9] O (by kernel_rfl) ?_;replace O:=O.drew;refine rX [0,1] I ?_;clear I a;refine bA 2 [] rfl (fun w=>(ix rfl rfl dg cn)) ?_;refine bA 3 [] rfl (fun w=>(aw rfl bW)) ?_;refine cW 4 [5] rfl (by exact⟨[],O⟩) (fun w hT=>have O:=hT.sat;(an rfl DK (bI (hR.sat O) (cT hx0 0 _ rfl)))) ?_;intro a I;refine np 6 8 (by kernel_rfl) ?_ ?_
    ·refine eF I rfl rfl BN rfl (lQ _ Ap cp ps (by exact O.rd) (fun p hp=>(hEp p hp).sat O) (by omega) (by omega)) ?_;clear I a;rintro e w ⟨q,rfl,hq,hT⟩;replace O:Sat _ _ (_::_::_):=O.ag hT;clear hT;refine⟨_,rfl,?_⟩;intro a I;refine⟨.inr fun _=>(by exact⟨[_,_],O⟩),?_⟩;refine P1 7 [] I rfl (fun w=>(aL I rfl kJ)) ?_;clear I a;intro a I;refine aG 8 (by kernel_rfl) ?_;refine eN I rfl rfl mh O ?_;clear I a O;intro b9 w O;intro a I;refine⟨.inr fun _=>(by exact⟨[_,_,_],O⟩),?_⟩;refine aG 9 (by kernel_rfl) ?_;refine dr (vs:=[_,_,_]) (cs':=[_,_,_]) I rfl rfl rfl cn (by simp[Value.oneCell']) O rfl rfl ?_;clear O;intro w O;refine⟨.inl rfl,?_⟩;refine ah (by kernel_rfl) ?_ _;replace I:=I.kp [0,4,5,7,9] rfl
     first
      | exact⟨b9,q,I,((((((O.p 6).p 6).p 6).p 5).p 5).p 5).de [_,_,_,_,_,_],(by exact hq)⟩
    ·refine eN I rfl rfl mh O ?_;clear I a O;intro b9 w O;intro a I;refine⟨.inr fun _=>(by exact⟨[_],O⟩),?_⟩;refine aG 6 (by kernel_rfl) ?_;refine eF I rfl rfl BN rfl (lQ _ Ap cp ps (by exact (O.p 1).rd) (fun p hp=>(hEp p hp).sat O) (by omega) (by omega)) ?_;clear I a;rintro e w ⟨q,rfl,hq,hT⟩;replace O:Sat _ _ (_::_::_):=O.ag hT;clear hT;refine⟨_,rfl,?_⟩;intro a I;refine⟨.inr fun _=>(by exact⟨[_,_,_],O⟩),?_⟩;refine P1 7 [] I rfl (fun w=>(aL I rfl kJ)) ?_;clear I a;intro a I;refine aG 9 (by kernel_rfl) ?_;refine dr (vs:=[_,_,_]) (cs':=[_,_,_]) I rfl rfl rfl cn (by simp[Value.oneCell']) (O.p 2) rfl rfl ?_;clear O;intro w O;refine⟨.inl rfl,?_⟩;refine ah (by kernel_rfl) ?_ _;replace I:=I.kp [0,4,5,7,9] rfl
     first
      | exact⟨b9,q,I,((((((O.p 6).p 6).p 6).p 5).p 5).p 5).de [_,_,_,_,_,_],(by exact hq)⟩
   ·intro a w hI;clear O I;obtain⟨b9,q,I,O,hq⟩:=hI;have hgp:ps.map PL.d=(((rs.drop i).take (j-i)).map RL.d).map bS.bB:=by rw[hps];simp[List.map_map,Function.comp_def,RL.d]
    have hqc:=yp (ps.map PL.d);rw[←hq]at hqc;have hqv:=hqc.len;have hql:=zj (ps.map PL.d);rw[←hq]at hql;have hgl:(((rs.drop i).take (j-i)).map RL.d)=((rs.map RL.d).drop i).take (j-i):=by rw[List.map_take,List.map_drop]
    rw[hgp,hgl]at hq;rw[hgl]at hsk;refine rC 3 I ?_;clear I a;refine u1 0 (aa rfl bW) ?_;refine u1 0 (ld rfl) ?_;refine aM 0 0 (iM rfl rfl) ?_ ?_
    ·intro h55;refine uO 4 ?_;refine u1 0 (aa rfl bK) ?_;refine u1 0 (lS (cs:=[_,_]) rfl) ?_;refine uW (vs:=[_,_]) (cs':=[_,_]) rfl rfl bj (O.p 3) ?_;clear O;intro w O;refine uO 5 ?_;refine u1 0 (aa rfl bK) ?_;refine u1 0 (lS (cs:=[_,_]) rfl) ?_;refine uF rfl (gE _ q ⟨(O.p 2).rd,(O.p 3).rd⟩ (by omega)) ?_;rintro e w ⟨rfl,hT⟩;replace O:Sat _ _ _:=O.ag hT;clear hT;generalize h65:(eo q.d)=bb;cases bb
     ·refine u1 5 (aF rfl) ?_;refine u1 0 (lS (cs:=[_,_,_]) rfl) ?_;intro a I;refine jl (vss:=[[_,_,_]]) I rfl rfl dg nE rfl rfl rfl (by simp) rfl O ?_;clear I a O;intro A69 w O;intro a I;refine cZ I rfl rfl rfl dg nE rfl (O.p 5) (O.rd.src dg (by simp[Value.oneCell'])) (by omega) (by omega) ?_;clear I a O;intro A70 c70 w hc70 O;refine uO 8 ?_;intro a I;replace I:=I.kp [0,4,5,6] rfl;have hsk0:∀x∈((rs.map RL.d).drop i).take (j-i),x.cw={ data:=#[] }:=fun x hx=>(hsk x hx).trans h55
      have el:out.length+1=(out++[(⟨x0.cw,q⟩:RL)]).length:=by simp
      have hS2:=gL O el (cs':=(out++[(⟨x0.cw,q⟩:RL)]).flatMap jb) (by rw[List.flatMap_append];rfl);have hS3:=kE x0.cw q ((((hS2.p 2).p 6).p 6).p 6);rw[el]at I;have hF2:=yN hF1 hij hsk0 (by rw[←hq];exact h65);rw[←hq,←h55]at hF2;refine⟨rs.length-j,by omega,j,out++[(⟨x0.cw,q⟩:RL)],A70,c70,q,I,nJ ((hS3.p 2).p 2),hj,?_,by simp;omega,fun x hx=>(by rcases List.mem_append.1 hx with hx | hx;exact hsm x hx;simp at hx;subst hx;exact⟨by dsimp only;omega,by dsimp only;omega,fun _=>(by dsimp only;omega)⟩),?_,by omega,rfl⟩
      ·rw[List.map_append];exact hF2
      ·exact .inr ⟨_,List.mem_append_right _ (List.mem_singleton.2 rfl),rfl⟩
     ·refine u1 10 (aF rfl) ?_;intro a I;replace I:=I.kp [0,4,5,6] rfl;have hsk0:∀x∈((rs.map RL.d).drop i).take (j-i),x.cw={ data:=#[] }:=fun x hx=>(hsk x hx).trans h55
      rw[hq]at h65;have hqe:q.d=⟨[],[]⟩:=by rw[hq];exact u3 h65
      have hF2:=vY hF1 hij hsk0 h65;rw[←hq]at hF2;exact⟨rs.length-j,by omega,j,out,Ao,co,q,I,nJ (((O.p 5).p 5).p 2),hj,hF2,by omega,hsm,.inl hqe,by rw[hqe];simp,rfl⟩
    ·intro h55;refine uO 4 ?_;refine u1 0 (aa rfl bK) ?_;refine u1 0 (lS (cs:=[_,_]) rfl) ?_;refine u1 0 (lS (cs:=[_,_]) rfl) ?_;refine uF rfl (qP _ q al ⟨(O.p 1).rd,(O.p 2).rd⟩ (Gc hal (O.p 5)) (by omega) (by omega)) ?_;rintro e w ⟨z,rfl,hz,hT⟩;replace O:Sat _ _ (_::_::_):=O.ag hT;clear hT;have hzv:=(uA q.d al.d).len;rw[←hz]at hzv;have hzl:=rp q.d al.d;rw[←hz]at hzl;refine u1 0 (aa rfl bK) ?_;refine uW (vs:=[_,_]) (cs':=[_,_,_]) rfl rfl bj (O.p 2) ?_;clear O;intro w O;refine uO 5 ?_;refine u1 0 (aa rfl bK) ?_;refine u1 0 (lS (cs:=[_,_]) rfl) ?_;refine uF rfl (gE _ z ⟨(O.p 1).rd,(O.p 2).rd⟩ (by omega)) ?_;rintro e w ⟨rfl,hT⟩;replace O:Sat _ _ _:=O.ag hT;clear hT;generalize h65:(eo z.d)=bb;cases bb
     ·refine u1 5 (aF rfl) ?_;refine u1 0 (lS (cs:=[_,_,_]) rfl) ?_;intro a I;refine jl (vss:=[[_,_,_]]) I rfl rfl dg nE rfl rfl rfl (by simp) rfl O ?_;clear I a O;intro A69 w O;intro a I;refine cZ I rfl rfl rfl dg nE rfl (O.p 7) (O.rd.src dg (by simp[Value.oneCell'])) (by omega) (by omega) ?_;clear I a O;intro A70 c70 w hc70 O;refine uO 8 ?_;intro a I;replace I:=I.kp [0,4,5,6] rfl;have el:out.length+1=(out++[(⟨x0.cw,z⟩:RL)]).length:=by simp
      have hS2:=gL O el (cs':=(out++[(⟨x0.cw,z⟩:RL)]).flatMap jb) (by rw[List.flatMap_append];rfl);have hS3:=kE x0.cw z ((((hS2.p 7).p 8).p 6).p 6);rw[el]at I;have hF2:=yz (s:=x0.cw) hF1 hij h55 hsk;rw[←hq,←hz]at hF2;refine⟨rs.length-j,by omega,j,out++[(⟨x0.cw,z⟩:RL)],A70,c70,al,I,nJ ((hS3.p 2).p 2),hj,?_,by simp;omega,fun x hx=>(by rcases List.mem_append.1 hx with hx | hx;exact hsm x hx;simp at hx;subst hx;exact⟨by dsimp only;omega,by dsimp only;omega,fun h=>absurd h h55⟩),?_,by omega,rfl⟩
      ·rw[List.map_append];exact hF2
      ·rcases hal with h | ⟨x,hx,h⟩
       ·exact .inl h
       ·exact .inr ⟨x,List.mem_append_left _ hx,h⟩
     ·refine u1 10 (aF rfl) ?_;intro a I;replace I:=I.kp [0,4,5,6] rfl;rw[hz,hq]at h65;have hF2:=wZ hF1 hij hsk h65 h55;exact⟨rs.length-j,by omega,j,out,Ao,co,al,I,nJ (((O.p 7).p 7).p 7),hj,hF2,by omega,hsm,hal,hac,rfl⟩
 ·intro h16;obtain rfl:i=rs.length:=by omega
  intro a I;rw[show rs.length=(rs.map RL.d).length from by simp]at hF1;have hcov:=hF1.Jg;rw[List.take_length]at hcov;refine rO 8 I ?_;clear I a;intro a I;replace I:=I.kp [5] rfl;refine rC 4 I ?_;clear I a;refine u1 0 (ak rfl dg) ?_;refine aM 0 0 (db rfl rfl) ?_ ?_
  ·intro h74;refine uO 2 ?_;obtain⟨Ao_p,rfl⟩:∃q,Ao=some q:=(O.p 1).rd.ao (by omega);obtain⟨x1,hx1⟩:∃zz_,out[0]?=some zz_:=⟨_,List.getElem?_eq_getElem (by omega)⟩;refine u1 0 (ix rfl rfl dg cn) ?_;refine u1 0 (aw rfl bW) ?_;refine u1 0 (an rfl DK (bI (O.p 1).rd (cT hx1 0 _ rfl))) ?_;refine aM 0 0 (iM rfl rfl) ?_ ?_
   ·intro h80;refine uO 7 ?_;refine u1 0 (ix rfl rfl dg cn) ?_;refine u1 0 (ax (cs:=jb x1) rfl k8 cn (fun j u e=>bI (O.p 1).rd (cT hx1 j u e))) ?_;refine uF rfl (qk _ x1 (u0 (O.p 2) x1 (List.mem_of_getElem? hx1)) (by have:=hsm x1 (List.mem_of_getElem? hx1);omega)) ?_;rintro e w ⟨q,rfl,hq,hT⟩;replace O:Sat _ _ (_::_::_):=O.ag hT;clear hT;refine u1 0 (ix rfl rfl dg cn) ?_;intro a I;refine Gq (0 * 3) (vs:=[_,_,_]) I rfl rfl rfl cn (by simp[Value.oneCell']) (O.p 3) (by rw[oD uD];simp;omega) ?_;clear O;intro w O;refine rO 10 I ?_;clear I a;refine fx ?_;have hx1m:=List.mem_of_getElem? hx1;obtain⟨hx1s,_,hx1t⟩:=hsm x1 hx1m;have hx1u:=hx1t h80;have hS2:=gL O rfl (vb uD (xs:=out) (i:=0) (⟨x1.cw,q⟩:RL) (by omega));have hS3:=Ee x1.cw q hx1 (((hS2.p 4).p 3).p 3)
    have hql:=jG x1.p.d;rw[←hq]at hql;have hqv:=(i6 x1.p.d).len;rw[←hq]at hqv;refine⟨⟨some Ao_p,co,out.set 0 ⟨x1.cw,q⟩⟩,by simp,fun e2=>?_,?_,?_,cu (q8 (gL (hS3.p 1) (by simp) rfl))⟩
    ·show bJ ((out.set 0 ⟨x1.cw,q⟩).map RL.d) e2=_;rw[FG hx1 hq];exact hcov e2
    ·intro x hx;rcases List.mem_or_eq_of_mem_set hx with hx | rfl
     ·have:=hsm x hx;omega
     ·exact⟨by dsimp only;omega,by dsimp only;omega⟩
    ·show (out.set 0 ⟨x1.cw,q⟩).length≤_;rw[List.length_set];omega
   ·intro h80;refine uO 14 ?_;refine fx ?_;refine⟨⟨some Ao_p,co,out⟩,rfl,fun e2=>?_,?_,?_,cu (q8 ((O.p 2).p 2))⟩
    ·show bJ (out.map RL.d) e2=_;exact hcov e2
    ·intro x hx;have:=hsm x hx;omega
    ·show out.length≤_;omega
  ·intro h74;refine uO 20 ?_;refine fx ?_;refine⟨⟨Ao,co,out⟩,rfl,fun e2=>?_,?_,?_,cu (q8 ((O.p 2).p 2))⟩
   ·show bJ (out.map RL.d) e2=_;exact hcov e2
   ·intro x hx;have:=hsm x hx;omega
   ·show out.length≤_;omega
theorem yK (W:World)(B:Option Addr)(d:Nat)(xs:List aS)(A:Option Addr)(c:Nat)(rs:List RL)(hX:fJ W B d xs)(hlx:xs.length≤1000000000000)(hEx:bZ xs=true)(hR:fO W A c rs)(hE:∀r∈rs,r.p.ok W)(hB:dz 10000000000 rs)(hl:rs.length≤1000000000000)(hs:cP (rs.map fun r=>r.p.d)≤16777216)(hF:cC (rs.map RL.d)=true):Calls Tryz.prog 346 #[.slice B (xs).length d,.slice A (rs).length c] W fun e w'=>∃A' c',e=.returned (.tuple #[.slice A' (xs.filter (fun e2=>!bJ (rs.map RL.d) e2)).length c',.int .i64 0])∧Sat W w' [je 216 A' c' (xs.filter (fun e2=>!bJ (rs.map RL.d) e2))]:=by
 refine bP Tryz.func346 [0,1] ?_;have O:=Sat.start W;refine uC 10 ?_;refine uF rfl (gB _ B d xs (hX.sat O) hlx) ?_;rintro e w ⟨rfl,hT⟩;rw[if_pos hEx];replace O:Sat _ _ _:=O.ag hT;clear hT;refine u1 2 (cQ (aD rfl rfl) (by omega)) ?_;refine jL rfl (fD _ A c rs (hR.sat O) (fun r h=>(hE r h).sat O) hB hl) ?_;rintro e w ⟨rfl,hT⟩;rw[if_pos hF];replace O:Sat _ _ _:=O.ag hT;clear hT;refine u1 9 (cQ (aD rfl rfl) (by omega)) ?_;refine uF rfl (AZ _ A c rs (hR.sat O) (fun r h=>(hE r h).sat O) hB hl hs hF) ?_;rintro e w ⟨q,rfl,hqc,hqs,hql,hT⟩;replace O:=O.ar hT;clear hT;refine uO 1 ?_;refine u1 0 (aj rfl rfl) ?_;refine u1 13 (aj rfl rfl) ?_;refine u1 3 (ak rfl bz) ?_;intro a I;replace I:=I.kp [4,5,6,8,24,25,26] rfl;refine rC 1 I ?_;clear I a;intro a I
 refine wp_loop_ghost (fun (mm:Nat) a w=>∃(i:Nat) (out:List aS) (Ao:Option Addr) (co:Nat),Ag a 40 [(6,.slice q.a q.rs.length q.c),(8,.slice Ao (out).length co),(24,.slice B (xs).length d),(25,.int .i64 ((xs.length:Nat):Int)),(26,.int .i64 ((i:Nat):Int))]∧Sat W w ([je 216 Ao co out,q.ch 206 3 219])∧(i≤xs.length)∧(out=(xs.take i).filter (fun e2=>!bJ (rs.map RL.d) e2))∧(out.length≤i)∧mm=xs.length-i) xs.length ?_ ?_
 ·replace I:=I.kp [6,8,24,25,26] rfl;exact⟨0,[],none,0,I,(O.aW 216 4),(by omega),(by rfl),(by simp),by omega⟩
 intro m a w hI;clear O I;obtain⟨i,out,Ao,co,I,O,hi,ho,hol,rfl⟩:=hI;refine rC 2 I ?_;clear I a;refine aM 0 0 (aq rfl rfl) ?_ ?_
 ·intro h27;refine uO 10 ?_;obtain⟨B_p,rfl⟩:∃q,B=some q:=(hX.sat O).ao (by omega);obtain⟨x,hx⟩:∃zz_,xs[i]?=some zz_:=⟨_,List.getElem?_eq_getElem (by omega)⟩;refine u1 0 (ix rfl rfl bz dq) ?_;refine u1 0 (ax (cs:=mf x) rfl pg dq (fun j u e=>bI (hX.sat O) (cV hx j u e))) ?_;refine uN Cb O ?_;clear O;intro b10 w O;refine uW (vs:=[_,_,_,_]) (cs':=[_,_,_,_]) rfl rfl dq O ?_;clear O;intro w O;refine uO 5 ?_;refine u1 0 (lS (cs:=[_,_,_,_]) rfl) ?_;intro a I;refine vL I rfl HL rfl (AU _ q.a q.c q.rs x (jz.tZ (O.p 2)).top (fun r h=>(jz.tZ (O.p 2)).each r h) hqs hql) ?_;clear I a;rintro e w ⟨rfl,hT⟩;replace O:Sat _ _ _:=O.ag hT;clear hT;refine⟨_,rfl,?_⟩;refine aM 0 0 (aY rfl rfl) ?_ ?_
  ·intro h33;refine uO 5 ?_;refine u1 0 (lS (cs:=[_,_,_,_]) rfl) ?_;intro a I;refine jl (vss:=[[_,_,_,_]]) I rfl rfl bz jd rfl rfl rfl (by simp) rfl O ?_;clear I a O;intro A36 w O;intro a I;refine cZ I rfl rfl rfl bz jd rfl (O.p 2) (O.rd.src bz (by simp[Value.oneCell'])) (by omega) (by omega) ?_;clear I a O;intro A37 c37 w hc37 O;refine uO 5 ?_;refine u1 2 (ad rfl rfl) ?_;intro a I;replace I:=I.kp [6,8,24,25,26] rfl;have ef:=iz (p:=fun e2=>!bJ (rs.map RL.d) e2) hx;have hqx:bJ (q.rs.map RL.d) x=bJ (rs.map RL.d) x:=hqc x;rw[if_pos (by rw[←hqx,Bool.not_eq_true'];exact tU.1 (by omega))]at ef;have el:out.length+1=(out++[x]).length:=by simp
   have hS2:=gL O el (cs':=(out++[x]).flatMap mf) (by rw[List.flatMap_append];rfl);rw[el]at I;exact⟨xs.length-(i+1),by omega,i+1,out++[x],A37,c37,I,oW ((hS2.p 3).p 1),by omega,by rw[ho,ef],by simp;omega,rfl⟩
  ·intro h33;refine uO 7 ?_;refine u1 2 (ad rfl rfl) ?_;intro a I;replace I:=I.kp [6,8,24,25,26] rfl;have ef:=iz (p:=fun e2=>!bJ (rs.map RL.d) e2) hx;have hqx:bJ (q.rs.map RL.d) x=bJ (rs.map RL.d) x:=hqc x;rw[if_neg (by rw[←hqx];intro h;rw[Bool.not_eq_true']at h;exact h33 (by rw[tU.2 h];rfl)),List.append_nil]at ef;exact⟨xs.length-(i+1),by omega,i+1,out,Ao,co,I,O.drop,by omega,by rw[ef];exact ho,by omega,rfl⟩
 ·intro h27;refine uO 17 ?_;refine fx ?_;obtain rfl:i=xs.length:=by omega
  rw[List.take_length]at ho;subst ho;exact⟨_,_,rfl,cu O⟩
def ay (s:iX):Bool:=bZ s.ly && (bL s.bB && cC s.l6)
def bq (s:iX):Bool:=ay s && (cj (lX (s.ly.map aS.dot)) s.bB && ((s.l6.all fun r=>!cj r.bB s.bB) && (s.ly.all fun e=>!bJ s.l6 e)))
structure j9 (s:SL):Prop where
 es:s.e.es.length≤16777216
 pv:s.p.d.vec.length≤1000000000000
 pc:s.p.d.ab.length≤16777216
 rv:∀r∈s.r.rs,r.p.d.vec.length≤1000000000000
 rs:cP (s.r.rs.map fun r=>r.p.d)≤16777216
theorem tk {ps:List aK}{p:aK}(h:p∈ps):p.ab.length+1≤cP ps:=by
 induction ps with
 | nil=>cases h
 | cons q ps ih =>
   unfold cP at *;rw[List.map_cons,List.sum_cons];rcases List.mem_cons.1 h with rfl | h
   ·
    omega
   ·
    have:=ih h;omega
theorem eR {rs:List RL}{n:Nat}(hv:∀r∈rs,r.p.d.vec.length≤1000000000000)(hs:cP (rs.map fun r=>r.p.d)≤n):dz n rs:=fun r hr=>⟨hv r hr,by have:=tk (List.mem_map.2 ⟨r,hr,rfl⟩:r.p.d∈rs.map fun r=>r.p.d);omega⟩
theorem dz.mono {m n:Nat}{rs:List RL}(h:dz m rs)(hm:m≤n):dz n rs:=fun r hr=>⟨(h r hr).1,Nat.le_trans (h r hr).2 hm⟩
theorem jg {rs:List RL}{n:Nat}(hs:cP (rs.map fun r=>r.p.d)≤n):rs.length≤n:=by
 have:=qx (rs.map fun r=>r.p.d);rw[List.length_map]at this;omega
theorem all_filter {α:Type}(p:α→Bool):∀l:List α,((l.filter p).length=l.length)↔l.all p=true:=fun l=>by
 rw[List.all_eq_true];exact List.length_filter_eq_length_iff
theorem Ez (rs:List bS)(es:List aS):(es.all fun e=>!bJ rs e)=rs.all fun r=>es.all fun e=>!gQ r e:=by
 rw[Bool.eq_iff_iff];simp only[List.all_eq_true,Bool.not_eq_true'];constructor
 ·
  intro h r hr e he;have:=h e he;unfold bJ at this;rw[List.any_eq_false]at this;simpa using this r hr
 ·
  intro h e he;unfold bJ;rw[List.any_eq_false];intro r hr;simpa using h r hr e he
theorem BC {α:Type}(p q:α→Bool):∀l:List α,(l.all p && l.all q)=l.all fun x=>p x && q x
 | []=>rfl
 | x :: l => by
   rw[List.all_cons,List.all_cons,List.all_cons,←BC p q l];cases p x<;>cases q x<;>simp
theorem zf {α:Type}{p:α→Bool}{xs:List α}{i:Nat}{x:α}(h:xs[i]?=some x):(xs.take (i+1)).all p=((xs.take i).all p && p x):=by
 rw[aA h,List.all_append];simp
theorem zZ {α:Type}{p:α→Bool}{xs:List α}{i:Nat}{x:α}(h:xs[i]?=some x)(hp:p x=false):xs.all p=false:=by
 rw[List.all_eq_false];exact⟨x,List.mem_of_getElem? h,by rw[hp];simp⟩
theorem zT (xs:List aS):(lX (xs.map aS.dot)).ab.length≤16 * (xs.length+1):=by
 have:=jG ⟨[],(xs.map aS.dot).map fun d=>⟨d.rep,d.num,d.num⟩⟩;unfold lX;simpa using this
theorem y9 (xs:List aS):(lX (xs.map aS.dot)).vec.length≤16:=(i6 _).len
theorem uy (rs:List bS)(es:List aS)(p:aK):((rs.all fun r=>!cj r.bB p) && (es.all fun e=>!bJ rs e))=rs.all fun r=>!cj r.bB p && es.all fun e=>!gQ r e:=by
 rw[Ez,BC]
theorem G8 {x y:RL}(h1:x.cw=y.cw)(h2:x.p.d=y.p.d):x.d=y.d:=by unfold RL.d;rw[h1,h2]
theorem DD {a b:iX}(h1:a.ly=b.ly)(h2:a.bB=b.bB)(h3:a.l6=b.l6):a=b:=by cases a;cases b;simp only at h1 h2 h3;subst h1 h2 h3;rfl
theorem qt (W:World)(s:SL)(hp:s.ok W)(hs:j9 s):Calls Tryz.prog 433 #[.agg #[.slice s.e.a s.e.es.length s.e.c,.slice s.p.va s.p.d.vec.length s.p.vc,.slice s.p.ca s.p.d.ab.length s.p.cc,.slice s.r.a s.r.rs.length s.r.c]] W fun e w'=>e=.returned (.int .i64 (if ay s.d=true then 0 else 1))∧Sat W w' []:=by
 refine bP Tryz.func433 [0] ?_;have O:=Sat.start W;obtain⟨⟨ea,ec,es⟩,p,⟨ra,rc,rs⟩⟩:=s;have he:fJ W ea ec es:=hp.e;have hpp:p.ok W:=hp.p;have hrt:fO W ra rc rs:=hp.r.top;have hre:∀r∈rs,r.p.ok W:=hp.r.each;have hel:es.length≤16777216:=hs.es;have hpv:p.d.vec.length≤1000000000000:=hs.pv;have hpc:p.d.ab.length≤16777216:=hs.pc;have hrs:cP (rs.map fun r=>r.p.d)≤16777216:=hs.rs;have hrb:dz 10000000000 rs:=(eR hs.rv hrs).mono (by decide);have hrl:=jg hrs;refine uC 2 ?_;refine uB rfl O ?_;clear O;intro b1 w O;refine uO 6 ?_;refine u1 0 (aa rfl rP) ?_;refine u1 0 (ld rfl) ?_;refine uF rfl (gB _ ea ec es (he.sat O) (by omega)) ?_;rintro e w ⟨rfl,hT⟩;replace O:Sat _ _ _:=O.ag hT;clear hT;refine aM 0 0 (aD rfl rfl) ?_ ?_
 ·intro h6;refine uO 22 ?_;refine aU ?_;refine⟨?_,O.nil⟩;unfold ay SL.d jz.d;dsimp only;rw[show bZ es=false from by simpa using h6];rfl
 ·intro h6;refine uO 1 ?_;refine u1 0 (aa rfl rU) ?_;refine u1 0 (lS (cs:=[_,_]) rfl) ?_;refine jL rfl (fC _ p (hpp.sat O) (by omega) hpv) ?_;rintro e w ⟨rfl,hT⟩;replace O:Sat _ _ _:=O.ag hT;clear hT;generalize h10:(bL p.d)=bb;cases bb
  ·refine u1 17 (aF rfl) ?_;refine aU ?_;refine⟨?_,O.nil⟩;unfold ay SL.d jz.d;dsimp only;rw[show bZ es=true from by simpa using h6,h10];rfl
  ·refine u1 2 (aF rfl) ?_;refine u1 0 (aa rfl rJ) ?_;refine u1 0 (ld rfl) ?_;refine jL rfl (fD _ ra rc rs (hrt.sat O) (fun r h=>(hre r h).sat O) hrb (by omega)) ?_;rintro e w ⟨rfl,hT⟩;replace O:Sat _ _ _:=O.ag hT;clear hT;refine aM 0 0 (aD rfl rfl) ?_ ?_
   ·intro h17;refine uO 11 ?_;refine aU ?_;refine⟨?_,O.nil⟩;unfold ay SL.d jz.d;dsimp only;rw[show bZ es=true from by simpa using h6,h10,show cC (rs.map RL.d)=false from by simpa using h17];rfl
   ·intro h17;refine uO 12 ?_;refine aU ?_;refine⟨?_,O.nil⟩;unfold ay SL.d jz.d;dsimp only;rw[show bZ es=true from by simpa using h6,h10,show cC (rs.map RL.d)=true from by simpa using h17];rfl
theorem vH (W:World)(s:SL)(hp:s.ok W)(hs:j9 s):Calls Tryz.prog 141 #[.agg #[.slice s.e.a s.e.es.length s.e.c,.slice s.p.va s.p.d.vec.length s.p.vc,.slice s.p.ca s.p.d.ab.length s.p.cc,.slice s.r.a s.r.rs.length s.r.c]] W fun e w'=>e=.returned (.int .i64 (if ay s.d=true then 0 else 1))∧Sat W w' []:=by
 refine bP Tryz.func141 [0] ?_;have O:=Sat.start W;obtain⟨⟨ea,ec,es⟩,p,⟨ra,rc,rs⟩⟩:=s;have he:fJ W ea ec es:=hp.e;have hpp:p.ok W:=hp.p;have hrt:fO W ra rc rs:=hp.r.top;have hre:∀r∈rs,r.p.ok W:=hp.r.each;have hel:es.length≤16777216:=hs.es;have hpv:p.d.vec.length≤1000000000000:=hs.pv;have hpc:p.d.ab.length≤16777216:=hs.pc;have hrs:cP (rs.map fun r=>r.p.d)≤16777216:=hs.rs;have hrb:dz 10000000000 rs:=(eR hs.rv hrs).mono (by decide);have hrl:=jg hrs;refine uC 2 ?_;refine uB rfl O ?_;clear O;intro b1 w O;refine uO 6 ?_;refine u1 0 (aa rfl rP) ?_;refine u1 0 (ld rfl) ?_;refine uF rfl (vO _ ea ec es (he.sat O) (by omega)) ?_;rintro e w ⟨rfl,hT⟩;replace O:Sat _ _ _:=O.ag hT;clear hT;refine aM 0 0 (aD rfl rfl) ?_ ?_
 ·intro h6;refine uO 22 ?_;refine aU ?_;refine⟨?_,O.nil⟩;unfold ay SL.d jz.d;dsimp only;rw[show bZ es=false from by simpa using h6];rfl
 ·intro h6;refine uO 1 ?_;refine u1 0 (aa rfl rU) ?_;refine u1 0 (lS (cs:=[_,_]) rfl) ?_;refine jL rfl (eY _ p (hpp.sat O) (by omega) hpv) ?_;rintro e w ⟨rfl,hT⟩;replace O:Sat _ _ _:=O.ag hT;clear hT;generalize h10:(bL p.d)=bb;cases bb
  ·refine u1 17 (aF rfl) ?_;refine aU ?_;refine⟨?_,O.nil⟩;unfold ay SL.d jz.d;dsimp only;rw[show bZ es=true from by simpa using h6,h10];rfl
  ·refine u1 2 (aF rfl) ?_;refine u1 0 (aa rfl rJ) ?_;refine u1 0 (ld rfl) ?_;refine jL rfl (qV _ ra rc rs (hrt.sat O) (fun r h=>(hre r h).sat O) hrb (by omega)) ?_;rintro e w ⟨rfl,hT⟩;replace O:Sat _ _ _:=O.ag hT;clear hT;refine aM 0 0 (aD rfl rfl) ?_ ?_
   ·intro h17;refine uO 11 ?_;refine aU ?_;refine⟨?_,O.nil⟩;unfold ay SL.d jz.d;dsimp only;rw[show bZ es=true from by simpa using h6,h10,show cC (rs.map RL.d)=false from by simpa using h17];rfl
   ·intro h17;refine uO 12 ?_;refine aU ?_;refine⟨?_,O.nil⟩;unfold ay SL.d jz.d;dsimp only;rw[show bZ es=true from by simpa using h6,h10,show cC (rs.map RL.d)=true from by simpa using h17];rfl
theorem qo (W:World)(s:SL)(hp:s.ok W)(hs:j9 s):Calls Tryz.prog 343 #[.agg #[.slice s.e.a s.e.es.length s.e.c,.slice s.p.va s.p.d.vec.length s.p.vc,.slice s.p.ca s.p.d.ab.length s.p.cc,.slice s.r.a s.r.rs.length s.r.c]] W fun e w'=>e=.returned (.int .i64 (if bq s.d=true then 0 else 1))∧Sat W w' []:=by
 refine bP Tryz.func343 [0] ?_;have O:=Sat.start W;obtain⟨⟨ea,ec,es⟩,p,⟨ra,rc,rs⟩⟩:=s;have he:fJ W ea ec es:=hp.e;have hpp:p.ok W:=hp.p;have hrt:fO W ra rc rs:=hp.r.top;have hre:∀r∈rs,r.p.ok W:=hp.r.each;have hel:es.length≤16777216:=hs.es;have hpv:p.d.vec.length≤1000000000000:=hs.pv;have hpc:p.d.ab.length≤16777216:=hs.pc;have hrs:cP (rs.map fun r=>r.p.d)≤16777216:=hs.rs;have hrb:dz 10000000000 rs:=(eR hs.rv hrs).mono (by decide);have hrl:=jg hrs;refine uC 2 ?_;refine uB rfl O ?_;clear O;intro b1 w O;refine uO 6 ?_;refine u1 0 (aa rfl j1) ?_;refine u1 0 (ld rfl) ?_;refine uF rfl (gB _ ea ec es (he.sat O) (by omega)) ?_;rintro e w ⟨rfl,hT⟩;replace O:Sat _ _ _:=O.ag hT;clear hT;refine aM 0 0 (aD rfl rfl) ?_ ?_
 ·intro h12;refine uO 22 ?_;refine aU ?_;refine⟨?_,O.nil⟩;unfold bq ay SL.d jz.d;dsimp only;rw[show bZ es=false from by simpa using h12];rfl
 ·intro h12;refine uO 1 ?_;refine u1 0 (aa rfl lU) ?_;refine u1 0 (lS (cs:=[_,_]) rfl) ?_;refine jL rfl (fC _ p (hpp.sat O) (by omega) hpv) ?_;rintro e w ⟨rfl,hT⟩;replace O:Sat _ _ _:=O.ag hT;clear hT;generalize h16:(bL p.d)=bb;cases bb
  ·refine u1 17 (aF rfl) ?_;refine aU ?_;refine⟨?_,O.nil⟩;unfold bq ay SL.d jz.d;dsimp only;rw[show bZ es=true from by simpa using h12,h16];rfl
  ·refine u1 2 (aF rfl) ?_;refine u1 0 (aa rfl j6) ?_;refine u1 0 (ld rfl) ?_;refine jL rfl (fD _ ra rc rs (hrt.sat O) (fun r h=>(hre r h).sat O) hrb (by omega)) ?_;rintro e w ⟨rfl,hT⟩;replace O:Sat _ _ _:=O.ag hT;clear hT;refine aM 0 0 (aD rfl rfl) ?_ ?_
   ·intro h23;refine uO 11 ?_;refine aU ?_;refine⟨?_,O.nil⟩;unfold bq ay SL.d jz.d;dsimp only;rw[show bZ es=true from by simpa using h12,h16,show cC (rs.map RL.d)=false from by simpa using h23];rfl
   ·intro h23;refine uO 9 ?_;refine u1 0 (aa rfl j1) ?_;refine u1 0 (ld rfl) ?_;refine uF rfl (zU _ ea ec es (he.sat O) (by omega) (by simpa using h12)) ?_;rintro e w ⟨q,rfl,hq,hT⟩;have hql:=zT es;rw[←hq]at hql;have hqv:=y9 es;rw[←hq]at hqv;replace O:Sat _ _ (_::_::_):=O.ag hT;clear hT;refine uO 1 ?_;refine u1 0 (aj rfl rfl) ?_;refine u1 0 (aj rfl rfl) ?_;refine uN dN O ?_;clear O;intro b3 w O;refine uW (vs:=[_,_]) (cs':=[_,_]) rfl rfl bj O ?_;clear O;intro w O;refine uO 5 ?_;refine u1 0 (lS (cs:=[_,_]) rfl) ?_;refine u1 0 (aa rfl lU) ?_;refine u1 0 (lS (cs:=[_,_]) rfl) ?_;refine uF rfl (pn _ q p ⟨(O.p 1).rd,(O.p 2).rd⟩ (hpp.sat O) (by omega) (by omega)) ?_;rintro e w ⟨rfl,hT⟩;replace O:Sat _ _ _:=O.ag hT;clear hT;generalize h34:(cj q.d p.d)=bb;cases bb
    ·refine u1 2 (aF rfl) ?_;intro a I;replace I:=I.kp [1,2,35] rfl;refine rC 8 I ?_;clear I a;refine aU ?_;refine⟨?_,O.nil⟩;unfold bq ay SL.d jz.d;dsimp only;rw[show bZ es=true from by simpa using h12,h16,show cC (rs.map RL.d)=true from by simpa using h23,←hq,h34];simp
    ·refine u1 2 (aF rfl) ?_;intro a I;replace I:=I.kp [1,2,35] rfl;refine rC 6 I ?_;clear I a;refine u1 0 (aa rfl j6) ?_;refine u1 0 (ld rfl) ?_;refine u1 0 (aa rfl lU) ?_;refine u1 0 (lS (cs:=[_,_]) rfl) ?_;refine uF rfl (za _ ra rc rs p (hrt.sat O) (fun r h=>(hre r h).sat O) hrb (by omega) (hpp.sat O) hpv (by omega) (by simpa using h23) h16) ?_;rintro e w ⟨z,rfl,hz,hT⟩;replace O:=O.ar hT;clear hT;refine uO 1 ?_;refine u1 0 (aj rfl rfl) ?_;refine u1 7 (aj rfl rfl) ?_;refine u1 0 (ak rfl dg) ?_;refine u1 0 (aa rfl j6) ?_;refine u1 0 (ld rfl) ?_;refine u1 0 (ak rfl dg) ?_;refine aM 0 0 (aD rfl rfl) ?_ ?_
     ·intro h49;intro a I;dsimp only at h49;refine rO 10 I ?_;clear I a;refine aU ?_;refine⟨?_,O.nil⟩;unfold bq ay SL.d jz.d;dsimp only
      rw[show bZ es=true from by simpa using h12,h16,show cC (rs.map RL.d)=true from by simpa using h23,←hq,h34,show ((rs.map RL.d).all fun r=>!cj r.bB p.d)=false from by
       rw[Bool.eq_false_iff,ne_eq,←all_filter];have hl:=congrArg List.length hz;rw[show z.d.length=z.rs.length from by simp[jz.d]]at hl;rw[←hl,List.length_map];omega];simp
     ·intro h49;intro a I;dsimp only at h49;refine rO 8 I ?_;clear I a;refine u1 0 (aa rfl j1) ?_;refine u1 0 (ld rfl) ?_;refine u1 0 (aa rfl j6) ?_;refine u1 0 (ld rfl) ?_;refine uF rfl (yK _ ea ec es ra rc rs (he.sat O) (by omega) (by simpa using h12) (hrt.sat O) (fun r h=>(hre r h).sat O) hrb (by omega) hrs (by simpa using h23)) ?_;rintro e w ⟨A55,c55,rfl,hT⟩;replace O:=O.ar hT;clear hT;refine uO 1 ?_;refine u1 0 (aj rfl rfl) ?_;refine u1 4 (aj rfl rfl) ?_;intro a I;replace I:=I.kp [1,2,7] rfl;refine rC 3 I ?_;clear I a;refine u1 0 (ak rfl bz) ?_;refine u1 0 (aa rfl j1) ?_;refine u1 0 (ld rfl) ?_;refine u1 0 (ak rfl bz) ?_;refine aM 0 0 (aD rfl rfl) ?_ ?_
      ·intro h63;intro a I;dsimp only at h63;refine rO 10 I ?_;clear I a;refine aU ?_;refine⟨?_,O.nil⟩;unfold bq ay SL.d jz.d;dsimp only
       rw[show bZ es=true from by simpa using h12,h16,show cC (rs.map RL.d)=true from by simpa using h23,←hq,h34,show ((rs.map RL.d).all fun r=>!cj r.bB p.d)=true from by
        rw[←all_filter];have hl:=congrArg List.length hz;rw[show z.d.length=z.rs.length from by simp[jz.d]]at hl;rw[←hl,List.length_map];omega,show (es.all fun e=>!bJ (rs.map RL.d) e)=false from by
        rw[Bool.eq_false_iff,ne_eq,←all_filter];omega];rfl
      ·intro h63;intro a I;dsimp only at h63;refine rO 11 I ?_;clear I a;refine aU ?_;refine⟨?_,O.nil⟩;unfold bq ay SL.d jz.d;dsimp only
       rw[show bZ es=true from by simpa using h12,h16,show cC (rs.map RL.d)=true from by simpa using h23,←hq,h34,show ((rs.map RL.d).all fun r=>!cj r.bB p.d)=true from by
        rw[←all_filter];have hl:=congrArg List.length hz;rw[show z.d.length=z.rs.length from by simp[jz.d]]at hl;rw[←hl,List.length_map];omega,show (es.all fun e=>!bJ (rs.map RL.d) e)=true from by
        rw[←all_filter];omega];rfl
theorem x8 (W:World)(s:SL)(hp:s.ok W)(hs:j9 s):Calls Tryz.prog 186 #[.agg #[.slice s.e.a s.e.es.length s.e.c,.slice s.p.va s.p.d.vec.length s.p.vc,.slice s.p.ca s.p.d.ab.length s.p.cc,.slice s.r.a s.r.rs.length s.r.c]] W fun e w'=>e=.returned (.bool (bq s.d))∧Sat W w' []:=by
 refine bP Tryz.func186 [0] ?_;have O:=Sat.start W;obtain⟨⟨ea,ec,es⟩,p,⟨ra,rc,rs⟩⟩:=s;have he:fJ W ea ec es:=hp.e;have hpp:p.ok W:=hp.p;have hrt:fO W ra rc rs:=hp.r.top;have hre:∀r∈rs,r.p.ok W:=hp.r.each;have hel:es.length≤16777216:=hs.es;have hpv:p.d.vec.length≤1000000000000:=hs.pv;have hpc:p.d.ab.length≤16777216:=hs.pc;have hrs:cP (rs.map fun r=>r.p.d)≤16777216:=hs.rs;have hrb:dz 10000000000 rs:=(eR hs.rv hrs).mono (by decide);have hrl:=jg hrs;refine uC 2 ?_;refine uB rfl O ?_;clear O;intro b1 w O;refine uO 6 ?_;refine u1 0 (aa rfl j1) ?_;refine u1 0 (ld rfl) ?_;refine uF rfl (tX _ ea ec es (he.sat O) (by omega)) ?_;rintro e w ⟨rfl,hT⟩;replace O:Sat _ _ _:=O.ag hT;clear hT;generalize h7:(bZ es)=bb;cases bb
 ·refine u1 22 (aF rfl) ?_;refine aU ?_;refine⟨?_,O.nil⟩;unfold bq ay SL.d jz.d;dsimp only;rw[h7];rfl
 ·refine u1 1 (aF rfl) ?_;refine u1 0 (aa rfl lU) ?_;refine u1 0 (lS (cs:=[_,_]) rfl) ?_;refine jL rfl (eY _ p (hpp.sat O) (by omega) hpv) ?_;rintro e w ⟨rfl,hT⟩;replace O:Sat _ _ _:=O.ag hT;clear hT;generalize h12:(bL p.d)=bb;cases bb
  ·refine u1 17 (aF rfl) ?_;refine aU ?_;refine⟨?_,O.nil⟩;unfold bq ay SL.d jz.d;dsimp only;rw[h7,h12];rfl
  ·refine u1 2 (aF rfl) ?_;refine u1 0 (aa rfl j6) ?_;refine u1 0 (ld rfl) ?_;refine jL rfl (uz _ ra rc rs (hrt.sat O) (fun r h=>(hre r h).sat O) hrb (by omega)) ?_;rintro e w ⟨rfl,hT⟩;replace O:Sat _ _ _:=O.ag hT;clear hT;generalize h18:(cC (rs.map RL.d))=bb;cases bb
   ·refine u1 11 (aF rfl) ?_;refine aU ?_;refine⟨?_,O.nil⟩;unfold bq ay SL.d jz.d;dsimp only;rw[h7,h12,h18];rfl
   ·refine u1 8 (aF rfl) ?_;intro a I;refine bg [5] O (by kernel_rfl) ?_;replace O:=O.drew;refine P1 0 [] I rfl (fun w=>(aa (I.ev rfl) j1)) ?_;clear I a;refine cW 1 [] rfl (by exact⟨[],O⟩) (fun w hT=>have O:=hT.sat;(ld rfl)) ?_;refine bA 3 [] rfl (fun w=>(aa rfl lU)) ?_;refine cW 4 [] rfl (by exact⟨[],O⟩) (fun w hT=>have O:=hT.sat;(lS (cs:=[_,_]) rfl)) ?_;intro a I;refine aG 2 (by kernel_rfl) ?_;refine eF I rfl rfl H8 rfl (zP _ ea ec es (he.sat O) (by omega)) ?_;clear I a;rintro e w ⟨q,rfl,hq,hT⟩;have hql:=zT es;rw[←hq]at hql;have hqv:=y9 es;rw[←hq]at hqv;replace O:Sat _ _ (_::_::_):=O.ag hT;clear hT;refine⟨_,rfl,?_⟩;intro a I;refine⟨.inr fun _=>(by exact⟨[_,_],O⟩),?_⟩;refine aG 5 (by kernel_rfl) ?_
    refine eF I rfl rfl GF rfl (o6 _ q p ⟨O.rd,(O.p 1).rd⟩ (hpp.sat O) (by omega) (by omega)) ?_;clear I a;rintro e w ⟨rfl,hT⟩;replace O:Sat _ _ _:=O.ag hT;clear hT;refine⟨_,rfl,?_⟩;intro a I;refine⟨.inl rfl,?_⟩;refine K.JY 6 I pk rfl rfl rfl rfl (by kernel_rfl) (by kernel_rfl) (by kernel_rfl) (fun w=>(aF (I.ev rfl))) ?_ ?_
    ·clear I a;intro h27;intro a I;simp only[decide_eq_decide,decide_eq_true_eq,decide_eq_false_iff_not,Bool.not_eq_true',Bool.not_eq_false',bne_iff_ne,ne_eq,beq_iff_eq,Bool.not_eq_true,Bool.not_eq_false]at h27;refine ah (by kernel_rfl) ?_ _;refine rE 9 I ?_;clear I a;refine aU ?_;refine⟨?_,O.nil⟩;unfold bq ay SL.d jz.d;dsimp only;rw[h7,h12,h18,←hq,show cj q.d p.d=false from by simpa using h27];simp
    ·clear I a;intro h27;intro a I;simp only[decide_eq_decide,decide_eq_true_eq,decide_eq_false_iff_not,Bool.not_eq_true',Bool.not_eq_false',bne_iff_ne,ne_eq,beq_iff_eq,Bool.not_eq_true,Bool.not_eq_false]at h27;refine ah (by kernel_rfl) ?_ _;refine rE 11 I ?_;clear I a;intro a I;refine wp_loop_ghost (fun (mm:Nat) a w=>∃(i:Nat),Ag a 62 [(1,.pointer (some ⟨b1,0,none⟩)),(3,.int .i64 ((i:Nat):Int))]∧Sat W w ([aV b1 (.cells #[.slice ea es.length ec,.slice p.va p.d.vec.length p.vc,.slice p.ca p.d.ab.length p.cc,.slice ra rs.length rc] 70)])∧(i≤rs.length)∧(((rs.map RL.d).take i).all (fun r=>!cj r.bB p.d && es.all fun e2=>!gQ r e2)=true)∧mm=rs.length-i) rs.length ?_ ?_
     ·replace I:=I.kp [1,3] rfl;exact⟨0,I,cu (O.p 2),(by omega),(by rfl),by omega⟩
     intro m a w hI;clear O I;obtain⟨i,I,O,hi,hw,rfl⟩:=hI;refine rC 4 I ?_;clear I a;refine u1 0 (aa rfl j6) ?_;refine u1 0 (ld rfl) ?_;refine u1 0 (ak rfl dg) ?_;refine aM 0 0 (aq rfl rfl) ?_ ?_
     ·intro h32;obtain⟨x,hx⟩:∃x,rs[i]?=some x:=⟨_,List.getElem?_eq_getElem (by omega)⟩;obtain⟨ra_p,rfl⟩:∃q,ra=some q:=(hrt.sat O).ao (by omega);have hxo:=hre x (List.mem_of_getElem? hx);obtain⟨hxv,_⟩:=hrb.get hx;have hxc:=((eR hs.rv hrs).get hx).2;refine uO 9 ?_;intro a I;refine fk (l1:=[_,_,_,_,_,_,_,_]) (l2:=[_]) rfl (by kernel_rfl) (by kernel_rfl) ?_;replace O:=O.drew;refine T1 0 I (aa (I.ev rfl) j6) ?_;clear I a;refine eD 1 (ld rfl) ?_;refine eD 0 (ix rfl rfl dg cn) ?_;refine eD 0 (aw rfl bK) ?_;refine eD 0 (ax (cs:=[.slice x.p.va x.p.d.vec.length x.p.vc,.slice x.p.ca x.p.d.ab.length x.p.cc]) rfl fy bj (fun j u e=>lq (hrt.sat O) (cT hx _ u (nO x j u e)))) ?_;refine eD 0 (aa rfl lU) ?_;refine eD 0 (lS (cs:=[_,_]) rfl) ?_;intro a I;refine wpStill_nil ?_
      refine vL I rfl GF rfl (o6 _ x.p p (hxo.sat O) (hpp.sat O) (by omega) (by omega)) ?_;clear I a;rintro e w ⟨rfl,hT⟩;replace O:Sat _ _ _:=O.ag hT;clear hT;generalize h43:(cj x.p.d p.d)=bb;cases bb
      ·refine⟨_,rfl,?_⟩;refine uO 11 ?_;intro a I;refine wp_loop_ghost (fun (mm:Nat) a w=>∃(j:Nat),Ag a 62 [(1,.pointer (some ⟨b1,0,none⟩)),(3,.int .i64 ((i:Nat):Int)),(4,.int .i64 ((j:Nat):Int))]∧Sat W w ([aV b1 (.cells #[.slice ea es.length ec,.slice p.va p.d.vec.length p.vc,.slice p.ca p.d.ab.length p.cc,.slice (some ra_p) rs.length rc] 70)])∧(j≤es.length)∧((es.take j).all (fun e2=>!gQ x.d e2)=true)∧mm=es.length-j) es.length ?_ ?_
       ·replace I:=I.kp [1,3,4] rfl;exact⟨0,I,O,(by omega),(by rfl),by omega⟩
       intro m a w hI;clear O I;obtain⟨j,I,O,hj,hcv,rfl⟩:=hI;refine rC 4 I ?_;clear I a;refine u1 0 (aa rfl j1) ?_;refine u1 0 (ld rfl) ?_;refine u1 0 (ak rfl bz) ?_;refine aM 0 0 (aq rfl rfl) ?_ ?_
       ·intro h48;refine uO 8 ?_;intro a I;refine fk (l1:=[_,_,_,_,_,_,_,_,_,_]) (l2:=[_]) rfl (by kernel_rfl) (by kernel_rfl) ?_;replace O:=O.drew;refine T1 0 I (aa (I.ev rfl) j6) ?_;clear I a;refine eD 1 (ld rfl) ?_;refine eD 0 (ix rfl rfl dg cn) ?_;refine eD 0 (ax (cs:=jb x) rfl k8 cn (fun j u e=>bI (hrt.sat O) (cT hx j u e))) ?_;refine eD 0 (aa rfl j1) ?_;refine eD 1 (ld rfl) ?_;obtain⟨ea_p,rfl⟩:∃q,ea=some q:=(he.sat O).ao (by omega);obtain⟨y,hy⟩:∃zz_,es[j]?=some zz_:=⟨_,List.getElem?_eq_getElem (by omega)⟩;refine eD 0 (ix rfl rfl bz dq) ?_;refine eD 0 (ax (cs:=mf y) rfl pg dq (fun j u e=>bI (he.sat O) (cV hy j u e))) ?_;intro a I;refine wpStill_nil ?_;refine vL I rfl HO rfl (vB _ x y (hxo.sat O) hxv (by omega)) ?_
        clear I a;rintro e w ⟨rfl,hT⟩;replace O:Sat _ _ _:=O.ag hT;clear hT;generalize h61:(gQ x.d y)=bb;cases bb
        ·refine⟨_,rfl,?_⟩;refine uO 8 ?_;refine u1 2 (ad rfl rfl) ?_;intro a I;replace I:=I.kp [1,3,4] rfl;exact⟨es.length-(j+1),by omega,j+1,I,O,by omega,by rw[zf hy,hcv,h61];rfl,rfl⟩
        ·refine⟨_,rfl,?_⟩;refine uO 18 ?_;refine aU ?_;refine⟨?_,O.nil⟩;unfold bq ay SL.d jz.d;dsimp only;rw[h7,h12,h18,←hq,show cj q.d p.d=true from by simpa using h27,uy,zZ (bO hx) (show (!cj x.d.bB p.d && es.all fun e2=>!gQ x.d e2)=false from by rw[zZ hy (by rw[h61];rfl)];simp)];rfl
       ·intro h48;refine uO 11 ?_;refine u1 2 (ad rfl rfl) ?_;intro a I;replace I:=I.kp [1,3] rfl;rw[List.take_of_length_le (by omega)]at hcv;exact⟨rs.length-(i+1),by omega,i+1,I,O,by omega,by rw[zf (bO hx),hw,show cj x.d.bB p.d=false from h43,hcv];rfl,rfl⟩
      ·refine⟨_,rfl,?_⟩;refine uO 15 ?_;refine aU ?_;refine⟨?_,O.nil⟩;unfold bq ay SL.d jz.d;dsimp only;rw[h7,h12,h18,←hq,show cj q.d p.d=true from by simpa using h27,uy,zZ (bO hx) (show (!cj x.d.bB p.d && _)=false from by rw[show cj x.d.bB p.d=true from h43];rfl)];rfl
     ·intro h32;refine uO 8 ?_;intro a I;replace I:=I.kp [] rfl;refine rC 6 I ?_;clear I a;refine aU ?_;obtain rfl:i=rs.length:=by omega
      rw[List.take_of_length_le (by simp)]at hw;refine⟨?_,O.nil⟩;unfold bq ay SL.d jz.d;dsimp only;rw[h7,h12,h18,←hq,show cj q.d p.d=true from by simpa using h27,uy,hw];rfl
theorem vF (W:World)(s:SL)(hp:s.ok W)(hs:j9 s):Calls Tryz.prog 143 #[.agg #[.slice s.e.a s.e.es.length s.e.c,.slice s.p.va s.p.d.vec.length s.p.vc,.slice s.p.ca s.p.d.ab.length s.p.cc,.slice s.r.a s.r.rs.length s.r.c]] W fun e w'=>e=.returned (.int .i64 (if bq s.d=true then 0 else 1))∧Sat W w' []:=by
 refine bP Tryz.func143 [0] ?_;have O:=Sat.start W;refine uC 2 ?_;refine uB rfl O ?_;clear O;intro b1 w O;refine uO 6 ?_;refine u1 0 (lS (cs:=[_,_,_,_]) rfl) ?_;refine uF rfl (x8 _ s (hp.sat O) hs) ?_;rintro e w ⟨rfl,hT⟩;replace O:Sat _ _ _:=O.ag hT;clear hT;generalize h4:(bq s.d)=bb;cases bb
 ·refine uO 11 ?_;refine aU ?_;exact⟨by simp[h4],O.nil⟩
 ·refine uO 10 ?_;refine aU ?_;exact⟨by simp[h4],O.nil⟩
theorem yZ (W:World)(A:Option Addr)(c:Nat)(xs:List aS)(B:Option Addr)(d:Nat)(ys:List aS)(hX:fJ W A c xs)(hY:fJ W B d ys)(hl1:xs.length≤1000000000000)(hl2:ys.length≤1000000000000):Calls Tryz.prog 105 #[.slice A (xs).length c,.slice B (ys).length d] W fun e w'=>e=.returned (.bool (decide (xs=ys)))∧Sat W w' []:=by
 refine bP Tryz.func105 [0,1] ?_;have O:=Sat.start W;refine uC 9 ?_;refine u1 1 (ak rfl bz) ?_;refine u1 0 (ak rfl bz) ?_;refine aM 0 0 (aD rfl rfl) ?_ ?_
 ·intro h10;refine uO 10 ?_;refine aU ?_;refine⟨?_,O⟩;rw[decide_eq_false];intro h;rw[h]at h10;omega
 ·intro h10;refine uO 12 ?_;intro a I;refine wp_loop_ghost (fun (mm:Nat) a w=>∃(i:Nat),Ag a 26 [(0,.slice A (xs).length c),(1,.slice B (ys).length d),(5,.int .i64 ((i:Nat):Int))]∧Sat W w ([])∧(i≤xs.length)∧(xs.take i=ys.take i)∧mm=xs.length-i) xs.length ?_ ?_
  ·replace I:=I.kp [0,1,5] rfl;exact⟨0,I,O,(by omega),(by rfl),by omega⟩
  intro m a w hI;clear O I;obtain⟨i,I,O,hi,he,rfl⟩:=hI;refine rC 5 I ?_;clear I a;refine u1 0 (ak rfl bz) ?_;refine aM 0 0 (aq rfl rfl) ?_ ?_
  ·intro h14;refine uO 8 ?_;intro a I;refine cK (fun w'=>Sat _ w' _) (by kernel_rfl) (by kernel_rfl) O.drew ?_;refine rQ 2 I ?_;clear I a;obtain⟨A_p,rfl⟩:∃q,A=some q:=(hX.sat O).ao (by omega);obtain⟨x,hx⟩:∃zz_,xs[i]?=some zz_:=⟨_,List.getElem?_eq_getElem (by omega)⟩;refine bp 0 (fun w O=>(ix rfl rfl bz dq)) ?_;refine bp 2 (fun w O=>(ax (cs:=mf x) rfl pg dq (fun j u e=>bI (hX.sat O) (cV hx j u e)))) ?_;obtain⟨B_p,rfl⟩:∃q,B=some q:=(hY.sat O).ao (by omega);obtain⟨y,hy⟩:∃zz_,ys[i]?=some zz_:=⟨_,List.getElem?_eq_getElem (by omega)⟩;refine bp 0 (fun w O=>(ix rfl rfl bz dq)) ?_;refine bp 0 (fun w O=>(ax (cs:=mf y) rfl pg dq (fun j u e=>bI (hY.sat O) (cV hy j u e)))) ?_;intro a I;refine K.sr I rfl rfl rfl (fun w O=>(xE (I.ev rfl) (I.ev rfl) IN H4)) ?_ ?_
   ·clear I a;intro h25;intro a I;refine wpQuiet_nil ?_;clear O;intro w O;refine rE 13 I ?_;clear I a;refine aU ?_;refine⟨?_,O⟩;rw[decide_eq_false];intro h;subst h;rw[hx]at hy;cases hy;simp at h25
   ·clear I a;intro h25;intro a I;refine wpQuiet_nil ?_;clear O;intro w O;refine rE 7 I ?_;clear I a;refine u1 2 (ad rfl rfl) ?_;intro a I;replace I:=I.kp [0,1,5] rfl;exact⟨xs.length-(i+1),by omega,i+1,I,O,by omega,by rw[aA hx,aA hy,he,show x=y from by cases x;cases y;simpa[and_assoc]using h25],rfl⟩
  ·intro h14;refine uO 8 ?_;intro a I;replace I:=I.kp [] rfl;refine rC 6 I ?_;clear I a;refine aU ?_;rw[List.take_of_length_le (by omega),List.take_of_length_le (by omega)]at he;refine⟨?_,O⟩;rw[decide_eq_true he]
theorem qn (W:World)(A:Option Addr)(c:Nat)(rs:List RL)(B:Option Addr)(d:Nat)(ts:List RL)(hX:fO W A c rs)(hY:fO W B d ts)(hEx:∀r∈rs,r.p.ok W)(hEy:∀r∈ts,r.p.ok W)(hBx:dz 10000000000 rs)(hBy:dz 10000000000 ts)(hl1:rs.length≤1000000000000)(hl2:ts.length≤1000000000000):Calls Tryz.prog 107 #[.slice A (rs).length c,.slice B (ts).length d] W fun e w'=>e=.returned (.bool (decide (rs.map RL.d=ts.map RL.d)))∧Sat W w' []:=by
 refine bP Tryz.func107 [0,1] ?_;have O:=Sat.start W;refine uC 9 ?_;refine u1 1 (ak rfl dg) ?_;refine u1 0 (ak rfl dg) ?_;refine aM 0 0 (aD rfl rfl) ?_ ?_
 ·intro h10;refine uO 10 ?_;refine aU ?_;refine⟨?_,O⟩;rw[decide_eq_false];intro h;have:=congrArg List.length h;simp at this;omega
 ·intro h10;refine uO 12 ?_;intro a I;refine wp_loop_ghost (fun (mm:Nat) a w=>∃(i:Nat),Ag a 42 [(0,.slice A (rs).length c),(1,.slice B (ts).length d),(5,.int .i64 ((i:Nat):Int))]∧Sat W w ([])∧(i≤rs.length)∧((rs.map RL.d).take i=(ts.map RL.d).take i)∧mm=rs.length-i) rs.length ?_ ?_
  ·replace I:=I.kp [0,1,5] rfl;exact⟨0,I,O,(by omega),(by rfl),by omega⟩
  intro m a w hI;clear O I;obtain⟨i,I,O,hi,he,rfl⟩:=hI;refine rC 5 I ?_;clear I a;refine u1 0 (ak rfl dg) ?_;refine aM 0 0 (aq rfl rfl) ?_ ?_
  ·intro h14;refine uO 8 ?_;intro a I;refine bg [22] O (by kernel_rfl) ?_;replace O:=O.drew;refine rX [0,1] I ?_;clear I a;obtain⟨A_p,rfl⟩:∃q,A=some q:=(hX.sat O).ao (by omega);obtain⟨x,hx⟩:∃zz_,rs[i]?=some zz_:=⟨_,List.getElem?_eq_getElem (by omega)⟩;have hxo:=hEx x (List.mem_of_getElem? hx);obtain⟨hxv,hxc⟩:=hBx.get hx;refine bA 2 [] rfl (fun w=>(ix rfl rfl dg cn)) ?_;refine bA 3 [] rfl (fun w=>(aw rfl bW)) ?_;refine cW 4 [5,6] rfl (by exact⟨[],O⟩) (fun w hT=>have O:=hT.sat;(an rfl DK (bI (hX.sat O) (cT hx 0 _ rfl)))) ?_;obtain⟨B_p,rfl⟩:∃q,B=some q:=(hY.sat O).ao (by omega);obtain⟨y,hy⟩:∃zz_,ts[i]?=some zz_:=⟨_,List.getElem?_eq_getElem (by omega)⟩;have hyo:=hEy y (List.mem_of_getElem? hy);obtain⟨hyv,hyc⟩:=hBy.get hy
   refine bA 7 [] rfl (fun w=>(ix rfl rfl dg cn)) ?_;refine bA 8 [] rfl (fun w=>(aw rfl bW)) ?_;refine cW 9 [] rfl (by exact⟨[],O⟩) (fun w hT=>have O:=hT.sat;(an rfl DK (bI (hY.sat O) (cT hy 0 _ rfl)))) ?_;intro a I;refine K.Gv 10 I pk rfl rfl rfl rfl (by kernel_rfl) (by kernel_rfl) (by kernel_rfl) (fun w=>(AE (I.ev rfl) (I.ev rfl))) ?_ ?_
   ·clear I a;intro h27;refine uX [11,12,13,14,15,16,17,18,19,20,21,22,23,24] ?_;intro a I;refine ah (by kernel_rfl) ?_ _;refine rE 13 I ?_;clear I a;refine aU ?_;refine⟨?_,O⟩;rw[decide_eq_false];intro h;have h1:=bO hx;rw[h,bO hy]at h1
    injection h1 with h1
    exact h27 (congrArg bS.cw h1.symm)
   ·clear I a;intro h27;refine uX [11,12,13] ?_;refine bA 14 [] rfl (fun w=>(ix rfl rfl dg cn)) ?_;refine bA 15 [] rfl (fun w=>(aw rfl bK)) ?_;refine cW 16 [17,18] rfl (by exact⟨[],O⟩) (fun w hT=>have O:=hT.sat;(ax (cs:=[.slice x.p.va x.p.d.vec.length x.p.vc,.slice x.p.ca x.p.d.ab.length x.p.cc]) rfl fy bj (fun j u e=>lq (hX.sat O) (cT hx _ u (nO x j u e))))) ?_;refine bA 19 [] rfl (fun w=>(ix rfl rfl dg cn)) ?_;refine bA 20 [] rfl (fun w=>(aw rfl bK)) ?_;refine cW 21 [] rfl (by exact⟨[],O⟩) (fun w hT=>have O:=hT.sat;(ax (cs:=[.slice y.p.va y.p.d.vec.length y.p.vc,.slice y.p.ca y.p.d.ab.length y.p.cc]) rfl fy bj (fun j u e=>lq (hY.sat O) (cT hy _ u (nO y j u e))))) ?_;intro a I;refine aG 22 (by kernel_rfl) ?_
    refine Fh I rfl (aT I rfl rfl rfl) rfl Gx rfl (pY _ x.p y.p (hxo.sat O) (hyo.sat O) hxv (by omega) hyv (by omega)) ?_;clear I a;rintro e w ⟨rfl,hT⟩;replace O:Sat _ _ _:=O.ag hT;clear hT;refine⟨_,rfl,?_⟩;intro a I;refine⟨.inl rfl,?_⟩;refine K.C7 23 I pk rfl (aT I rfl rfl rfl) rfl rfl (by kernel_rfl) (by kernel_rfl) (by kernel_rfl) (fun w=>(aF (I.ev rfl))) ?_ ?_
    ·clear I a;intro h40;intro a I;simp only[decide_eq_decide,decide_eq_true_eq,decide_eq_false_iff_not,Bool.not_eq_true',Bool.not_eq_false',bne_iff_ne,ne_eq,beq_iff_eq,Bool.not_eq_true,Bool.not_eq_false]at h40;refine rX [24] I ?_;clear I a;intro a I;refine ah (by kernel_rfl) ?_ _;refine rE 13 I ?_;clear I a;refine aU ?_;refine⟨?_,O⟩;rw[decide_eq_false];intro h;have h1:=bO hx;rw[h,bO hy]at h1
     injection h1 with h1
     have h2:x.p.d=y.p.d:=congrArg bS.bB h1.symm;simp[h2]at h40
    ·clear I a;intro h40;intro a I;simp only[decide_eq_decide,decide_eq_true_eq,decide_eq_false_iff_not,Bool.not_eq_true',Bool.not_eq_false',bne_iff_ne,ne_eq,beq_iff_eq,Bool.not_eq_true,Bool.not_eq_false]at h40;refine rX [24] I ?_;clear I a;intro a I;refine ah (by kernel_rfl) ?_ _;refine rE 7 I ?_;clear I a;refine u1 2 (ad rfl rfl) ?_;intro a I;replace I:=I.kp [0,1,5] rfl;have hxy:x.d=y.d:=G8 (Classical.not_not.1 h27) (by simpa using h40);exact⟨rs.length-(i+1),by omega,i+1,I,O,by omega,by rw[aA (bO hx),aA (bO hy),he,hxy],rfl⟩
  ·intro h14;refine uO 8 ?_;intro a I;replace I:=I.kp [] rfl;refine rC 6 I ?_;clear I a;refine aU ?_;rw[List.take_of_length_le (by simp;omega),List.take_of_length_le (by simp;omega)]at he;refine⟨?_,O⟩;rw[decide_eq_true he]
theorem pq (W:World)(s t:SL)(hp:s.ok W)(hs:j9 s)(gp:t.ok W)(gs:j9 t):Calls Tryz.prog 50 #[.agg #[.slice s.e.a s.e.es.length s.e.c,.slice s.p.va s.p.d.vec.length s.p.vc,.slice s.p.ca s.p.d.ab.length s.p.cc,.slice s.r.a s.r.rs.length s.r.c],.agg #[.slice t.e.a t.e.es.length t.e.c,.slice t.p.va t.p.d.vec.length t.p.vc,.slice t.p.ca t.p.d.ab.length t.p.cc,.slice t.r.a t.r.rs.length t.r.c]] W fun e w'=>e=.returned (.bool (decide (s.d=t.d)))∧Sat W w' []:=by
 refine bP Tryz.func50 [0,1] ?_;have O:=Sat.start W;obtain⟨⟨ea,ec,es⟩,p,⟨ra,rc,rs⟩⟩:=s;have he:fJ W ea ec es:=hp.e;have hpp:p.ok W:=hp.p;have hrt:fO W ra rc rs:=hp.r.top;have hre:∀r∈rs,r.p.ok W:=hp.r.each;have hel:es.length≤16777216:=hs.es;have hpv:p.d.vec.length≤1000000000000:=hs.pv;have hpc:p.d.ab.length≤16777216:=hs.pc;have hrs:cP (rs.map fun r=>r.p.d)≤16777216:=hs.rs;have hrb:dz 10000000000 rs:=(eR hs.rv hrs).mono (by decide);have hrl:=jg hrs;obtain⟨⟨fa,fc,fs⟩,q,⟨ta,tc,ts⟩⟩:=t;have ge:fJ W fa fc fs:=gp.e;have gpp:q.ok W:=gp.p;have grt:fO W ta tc ts:=gp.r.top;have gre:∀r∈ts,r.p.ok W:=gp.r.each;have gel:fs.length≤16777216:=gs.es;have gpv:q.d.vec.length≤1000000000000:=gs.pv;have gpc:q.d.ab.length≤16777216:=gs.pc;have grs:cP (ts.map fun r=>r.p.d)≤16777216:=gs.rs;have grb:dz 10000000000 ts:=(eR gs.rv grs).mono (by decide)
 have grl:=jg grs;refine uC 2 ?_;refine uB rfl O ?_;clear O;intro b2 w O;refine uB rfl O ?_;clear O;intro b3 w O;refine uO 5 ?_;refine u1 0 (aa rfl rP) ?_;refine u1 0 (ld rfl) ?_;refine u1 0 (aa rfl rP) ?_;refine u1 0 (ld rfl) ?_;refine uF rfl (yZ _ ea ec es fa fc fs (he.sat O) (ge.sat O) (by omega) (by omega)) ?_;rintro e w ⟨rfl,hT⟩;replace O:Sat _ _ _:=O.ag hT;clear hT;generalize h9:(decide (es=fs))=bb;cases bb
 ·refine uO 18 ?_;refine aU ?_;refine⟨?_,O.nil⟩;rw[decide_eq_false];intro h;exact (of_decide_eq_false h9) (congrArg iX.ly h)
 ·refine uO 1 ?_;refine u1 0 (aa rfl rU) ?_;refine u1 0 (lS (cs:=[_,_]) rfl) ?_;refine u1 0 (aa rfl rU) ?_;refine u1 0 (lS (cs:=[_,_]) rfl) ?_;refine jL rfl (pY _ p q (hpp.sat O) (gpp.sat O) hpv (by omega) gpv (by omega)) ?_;rintro e w ⟨rfl,hT⟩;replace O:Sat _ _ _:=O.ag hT;clear hT;generalize h15:(decide (p.d=q.d))=bb;cases bb
  ·refine uO 12 ?_;refine aU ?_;refine⟨?_,O.nil⟩;rw[decide_eq_false];intro h;exact (of_decide_eq_false h15) (congrArg iX.bB h)
  ·refine uO 2 ?_;refine u1 0 (aa rfl rJ) ?_;refine u1 0 (ld rfl) ?_;refine u1 0 (aa rfl rJ) ?_;refine u1 0 (ld rfl) ?_;refine jL rfl (qn _ ra rc rs ta tc ts (hrt.sat O) (grt.sat O) (fun r h=>(hre r h).sat O) (fun r h=>(gre r h).sat O) hrb grb (by omega) (by omega)) ?_;rintro e w ⟨rfl,hT⟩;replace O:Sat _ _ _:=O.ag hT;clear hT;refine uO 5 ?_;refine aU ?_;refine⟨?_,O.nil⟩
   congr 2
   rw[decide_eq_decide];exact⟨fun h=>DD (of_decide_eq_true h9) (of_decide_eq_true h15) h,fun h=>congrArg iX.l6 h⟩
theorem sR (W:World)(s t:SL)(hp:s.ok W)(hs:j9 s)(gp:t.ok W)(gs:j9 t):Calls Tryz.prog 51 #[.agg #[.slice s.e.a s.e.es.length s.e.c,.slice s.p.va s.p.d.vec.length s.p.vc,.slice s.p.ca s.p.d.ab.length s.p.cc,.slice s.r.a s.r.rs.length s.r.c],.agg #[.slice t.e.a t.e.es.length t.e.c,.slice t.p.va t.p.d.vec.length t.p.vc,.slice t.p.ca t.p.d.ab.length t.p.cc,.slice t.r.a t.r.rs.length t.r.c]] W fun e w'=>e=.returned (.bool (decide (s.d=t.d)))∧Sat W w' []:=by
 refine bP Tryz.func51 [0,1] ?_;have O:=Sat.start W;refine uC 2 ?_;refine uB rfl O ?_;clear O;intro b2 w O;refine uB rfl O ?_;clear O;intro b3 w O;refine uO 5 ?_;refine u1 0 (aa rfl j1) ?_;refine u1 0 (ld rfl) ?_;refine u1 0 (aa rfl lU) ?_;refine u1 0 (lS (cs:=[_,_]) rfl) ?_;refine u1 0 (aa rfl j6) ?_;refine u1 0 (ld rfl) ?_;intro a I;refine o1 0 I (aL I rfl nf) ?_;clear I a;refine uN vA O ?_;clear O;intro b5 w O;refine uW (vs:=[_,_,_,_]) (cs':=[_,_,_,_]) rfl rfl kC O ?_;clear O;intro w O;refine uO 4 ?_;refine u1 0 (aa rfl j1) ?_;refine u1 0 (ld rfl) ?_;refine u1 0 (aa rfl lU) ?_;refine u1 0 (lS (cs:=[_,_]) rfl) ?_;refine u1 0 (aa rfl j6) ?_;refine u1 0 (ld rfl) ?_;intro a I;refine o1 0 I (aL I rfl nf) ?_;clear I a;refine uN vA O ?_;clear O;intro b6 w O
 refine uW (vs:=[_,_,_,_]) (cs':=[_,_,_,_]) rfl rfl kC O ?_;clear O;intro w O;refine uO 4 ?_;refine u1 0 (lS (cs:=[_,_,_,_]) rfl) ?_;refine u1 0 (lS (cs:=[_,_,_,_]) rfl) ?_;refine uF rfl (pq _ s t (hp.sat O) hs (gp.sat O) gs) ?_;rintro e w ⟨rfl,hT⟩;replace O:Sat _ _ _:=O.ag hT;clear hT;refine uO 4 ?_;refine aU ?_;exact⟨rfl,O.nil⟩
def aJ (n:Nat):List UInt8:=if n<128 then [UInt8.ofNat n] else UInt8.ofNat (n % 128+128)::aJ (n / 128)
termination_by n
decreasing_by omega
theorem fG {n:Nat}(h:n<128):aJ n=[UInt8.ofNat n]:=by rw[aJ,if_pos h]
theorem ng {n:Nat}(h:128≤n):aJ n=UInt8.ofNat (n % 128+128)::aJ (n / 128):=by rw[aJ,if_neg (by omega)]
theorem cI (n:Nat):0<(aJ n).length:=by
 by_cases h:n<128
 ·
  rw[fG h];simp
 ·
  rw[ng (by omega)];simp
theorem yG:∀(k n:Nat),n<128 ^ (k+1)→(aJ n).length≤k+1
 | 0,n,h=>by rw[fG (by simpa using h)];simp
 | k + 1, n, h => by
   by_cases hn:n<128
   ·
    rw[fG hn];simp
   ·
    rw[ng (by omega)];have:=yG k (n / 128) (by rw[Nat.div_lt_iff_lt_mul (by omega)];rw[Nat.pow_succ]at h;exact h);simp;omega
theorem bc {n:Nat}(h:n≤9223372036854775807):(aJ n).length≤9:=yG 8 n (by omega)
def iT:Nat→Nat→List UInt8→Nat×Nat×Nat
 | 0,_,_=>(51,0,0)
 | _+1,_,[]=>(50,0,0)
 | f + 1, k, c :: l => if c.toNat < 128 then (if c.toNat = 0 ∧ 0 < k then (51, 0, 0) else (0, c.toNat, 1)) else
     (if (iT f (k+1) l).1=0 then (0,(c.toNat-128)+128 * (iT f (k+1) l).2.1,(iT f (k+1) l).2.2+1) else ((iT f (k+1) l).1,0,0))
def lift (acc wt i:Nat)(r:Nat×Nat×Nat):Nat×Nat×Nat:=if r.1=0 then (0,acc+wt * r.2.1,i+r.2.2) else (r.1,0,0)
theorem CJ (acc wt i c:Nat)(r:Nat×Nat×Nat):lift acc wt i (if r.1=0 then (0,c+128 * r.2.1,r.2.2+1) else (r.1,0,0))=lift (acc+wt * c) (wt * 128) (i+1) r:=by
 unfold lift
 by_cases h:r.1=0
 ·
  rw[if_pos h,if_pos rfl,if_pos h];simp only[Prod.mk.injEq,true_and];refine⟨?_,by omega⟩;rw[Nat.mul_add,Nat.mul_assoc,←Nat.add_assoc]
 ·
  rw[if_neg h,if_neg h,if_neg h]
theorem F3 (r:Nat×Nat×Nat)(h:r.1=0∨(r.2.1=0∧r.2.2=0)):lift 0 1 0 r=r:=by
 unfold lift;obtain⟨a,b,c⟩:=r
 by_cases ha:a=0
 ·
  subst ha;simp
 ·
  rw[if_neg ha];rcases h with h | ⟨h1,h2⟩
  ·
   exact absurd h ha
  ·
   simp at h1 h2;subst h1 h2;rfl
theorem DY:∀(f k:Nat) (l:List UInt8),(iT f k l).1=0∨((iT f k l).2.1=0∧(iT f k l).2.2=0)
 | 0,_,_=>.inr ⟨rfl,rfl⟩
 | _+1,_,[]=>.inr ⟨rfl,rfl⟩
 | f + 1, k, c :: l => by
   unfold iT
   (repeat' split)<;>simp
theorem BY (c:UInt8):c.toNat<256:=c.toNat_lt
theorem xo:∀(f k:Nat) (l:List UInt8) (v n:Nat),iT f k l=(0,v,n)→n≤f∧n≤l.length∧v<128 ^ f∧(0<k→0<v)∧l.take n=aJ v
 | 0,_,_,_,_,h=>by simp[iT]at h
 | _+1,_,[],_,_,h=>by simp[iT]at h
 | f + 1, k, c :: l, v, n, h => by
   unfold iT at h;have hc:=BY c
   split at h
   ·
    rename_i h1
    split at h
    ·
     simp at h
    ·
     rename_i h2;simp only[Prod.mk.injEq,true_and]at h;obtain⟨rfl,rfl⟩:=h;have hp:1≤128 ^ f:=Nat.one_le_pow _ _ (by omega);refine⟨by omega,by simp,by rw[Nat.pow_succ];omega,fun hk=>by omega,?_⟩;rw[fG h1];simp
   ·
    rename_i h1
    split at h
    ·
     rename_i h2;simp only[Prod.mk.injEq,true_and]at h;obtain⟨rfl,rfl⟩:=h;obtain⟨i1,i2,i3,i4,i5⟩:=xo f (k+1) l (iT f (k+1) l).2.1 (iT f (k+1) l).2.2 (by rw[←h2]);have i4:=i4 (by omega);refine⟨by omega,by simp;omega,by rw[Nat.pow_succ];omega,fun _=>by omega,?_⟩;rw[ng (by omega),List.take_succ_cons];have e1:(c.toNat-128+128 * (iT f (k+1) l).2.1) / 128=(iT f (k+1) l).2.1:=by omega
     have e2:(c.toNat-128+128 * (iT f (k+1) l).2.1) % 128+128=c.toNat:=by omega
     rw[e1,e2,i5];simp
    ·
     simp at h;omega
theorem DO:∀(f k v:Nat) (l:List UInt8),v<128 ^ f→(0<k→0<v)→0<f→iT f k (aJ v++l)=(0,v,(aJ v).length)
 | 0,_,_,_,_,_,h=>by omega
 | f + 1, k, v, l, hv, hk, _ => by
   by_cases h:v<128
   ·
    rw[fG h];have e:(UInt8.ofNat v).toNat=v:=by simp[UInt8.toNat_ofNat'];omega
    simp only[List.cons_append,List.nil_append,iT,e];rw[if_pos h,if_neg (by omega)];rfl
   ·
    rw[ng (by omega)];have e:(UInt8.ofNat (v % 128+128)).toNat=v % 128+128:=by simp[UInt8.toNat_ofNat'];omega
    have hf:0<f:=by
     rcases Nat.eq_zero_or_pos f with h0 | h0
     ·
      subst h0;simp at hv;omega
     ·
      exact h0
    have:=DO f (k+1) (v / 128) l (by rw[Nat.div_lt_iff_lt_mul (by omega)];rw[Nat.pow_succ]at hv;exact hv) (fun _=>by omega) hf;simp only[List.cons_append,iT,e,this];rw[if_neg (by omega),if_pos trivial];simp;omega
def ft (bs:List UInt8)(at_:Nat):Nat×Nat×Nat:=if (iT 9 0 (bs.drop at_)).1=0 then ((iT 9 0 (bs.drop at_)).2.1,at_+(iT 9 0 (bs.drop at_)).2.2,0) else (0,0,(iT 9 0 (bs.drop at_)).1)
theorem r8 {bs:List UInt8}{i:Nat}(h:(ft bs i).2.2=0):i<(ft bs i).2.1∧((ft bs i).2.1≤bs.length)∧(ft bs i).1≤9223372036854775807∧(ft bs i).2.1≤i+9∧(bs.drop i).take ((ft bs i).2.1-i)=aJ (ft bs i).1∧(ft bs i).2.1-i=(aJ (ft bs i).1).length:=by
 unfold ft at h ⊢
 by_cases h0:(iT 9 0 (bs.drop i)).1=0
 ·
  rw[if_pos h0];obtain⟨h1,h2,h3,_,h5⟩:=xo 9 0 (bs.drop i) (iT 9 0 (bs.drop i)).2.1 (iT 9 0 (bs.drop i)).2.2 (Prod.ext h0 rfl);have h6:=congrArg List.length h5;rw[List.length_take]at h6;have h7:=cI (iT 9 0 (bs.drop i)).2.1;simp only[List.length_drop]at h2 h6;have e:i+(iT 9 0 (bs.drop i)).2.2-i=(iT 9 0 (bs.drop i)).2.2:=by omega
  dsimp only;rw[e];refine⟨by omega,by omega,?_,by omega,h5,by omega⟩;have:(128:Nat) ^ 9=9223372036854775808:=by decide
  omega
 ·
  rw[if_neg h0]at h;exact absurd h h0
def nU (wt i:Nat):Prop:=wt=128 ^ i
theorem nU.zero:nU 1 0:=rfl
theorem nU.succ {wt i:Nat}(h:nU wt i):nU (wt * 128) (i+1):=by unfold nU at *;rw[h,Nat.pow_succ]
theorem nU.le {wt i:Nat}(h:nU wt i)(hi:i≤8):1≤wt∧wt≤72057594037927936:=by
 unfold nU at h;subst h;exact⟨Nat.one_le_pow _ _ (by omega),Nat.le_trans (Nat.pow_le_pow_right (by omega) hi) (by decide)⟩
theorem nU.two {wt i:Nat}(h:nU wt i):wt=2 ^ (7 * i):=by unfold nU at h;rw[h,show (128:Nat)=2 ^ 7 from rfl,←Nat.pow_mul]
theorem Hn {x wt i:Nat}(hx:x<128)(h:nU wt i)(hi:i≤8):x * wt≤9151314442816847872:=Nat.le_trans (Nat.mul_le_mul (show x≤127 by omega) (h.le hi).2) (by decide)
theorem Hu (c:UInt8):IntKind.u8.wrap (BitVec.ofInt IntKind.u8.bits (c.toNat:Int) &&& BitVec.ofInt IntKind.u8.bits 127).toNat=((c.toNat % 128:Nat):Int):=by
 have h:(BitVec.ofInt IntKind.u8.bits (c.toNat:Int) &&& BitVec.ofInt IntKind.u8.bits 127).toNat=c.toNat % 128:=by
  rw[BitVec.toNat_and,BitVec.toNat_ofInt,BitVec.toNat_ofInt]
  have h1:((c.toNat:Int) % ((2 ^ IntKind.u8.bits:Nat):Int)).toNat=c.toNat:=by
   have:=BY c;simp[IntKind.bits];omega
  have h2:((127:Int) % ((2 ^ IntKind.u8.bits:Nat):Int)).toNat=2 ^ 7-1:=by decide
  rw[h1,h2,Nat.and_two_pow_sub_one_eq_mod]
 rw[h,gD (by simp[IntKind.min,IntKind.signed];try omega) (by simp[IntKind.max,IntKind.signed,IntKind.bits];try omega)]
theorem JJ {x i wt:Nat}(hx:x<128)(hi:i≤8)(hw:nU wt i):IntKind.i64.wrap ((x:Int) * 2 ^ (min ((7 * (i:Int)).toNat) IntKind.i64.bits))=((x * wt:Nat):Int):=by
 have h1:min ((7 * (i:Int)).toNat) IntKind.i64.bits=7 * i:=by simp[IntKind.bits];omega
 have h2:=Hn hx hw hi;have h3:(x:Int) * 2 ^ (7 * i)=((x * wt:Nat):Int):=by rw[hw.two];simp
 rw[h1,h3,gD (by simp only[IntKind.min,IntKind.signed,IntKind.bits];omega) (by simp only[IntKind.max,IntKind.signed,IntKind.bits];omega)]
theorem Ke {acc x i wt:Nat}(ha:acc<wt)(hx:x<128)(hi:i≤8)(hw:nU wt i):IntKind.i64.wrap (BitVec.ofInt IntKind.i64.bits (acc:Int) ||| BitVec.ofInt IntKind.i64.bits ((x * wt:Nat):Int)).toNat=((acc+x * wt:Nat):Int):=by
 have h2:=Hn hx hw hi;have h1:=(hw.le hi).2
 have b:∀n:Nat,n<9223372036854775808→(BitVec.ofInt IntKind.i64.bits (n:Int)).toNat=n:=fun n hn=>by
  rw[BitVec.toNat_ofInt];simp only[IntKind.bits];omega
 have h:(BitVec.ofInt IntKind.i64.bits (acc:Int) ||| BitVec.ofInt IntKind.i64.bits ((x * wt:Nat):Int)).toNat=acc+x * wt:=by
  rw[BitVec.toNat_or,b _ (by omega),b _ (by omega),Nat.or_comm,Nat.mul_comm x wt,hw.two];rw[hw.two]at ha;rw[←Nat.two_pow_add_eq_or_of_lt ha,Nat.add_comm]
 rw[h,gD (by simp only[IntKind.min,IntKind.signed,IntKind.bits];omega) (by simp only[IntKind.max,IntKind.signed,IntKind.bits];omega)]
theorem kY {x:Nat}(h:x<256):Value.int .u8 (x:Int)=ai (UInt8.ofNat x):=by
 unfold ai;simp[UInt8.toNat_ofNat'];omega
theorem xi {bs:List UInt8}{j:Nat}{x:UInt8}(hx:bs[j]?=some x):bs.drop j=x::bs.drop (j+1):=by
 have hl:=(List.getElem?_eq_some_iff.1 hx).1;rw[List.drop_eq_getElem_cons hl,(List.getElem?_eq_some_iff.1 hx).2]
theorem F2 {bs:List UInt8}{at_ i acc wt:Nat}{x:UInt8}(hi:i≤8)(hx:bs[at_+i]?=some x)(hge:128≤x.toNat) :
 lift acc wt i (iT (9-i) i (bs.drop (at_+i)))=lift (acc+x.toNat % 128 * wt) (wt * 128) (i+1) (iT (9-(i+1)) (i+1) (bs.drop (at_+(i+1)))):=by
 have hlt:=BY x;rw[xi hx,show 9-i=9-(i+1)+1 from by omega,iT,if_neg (by omega),CJ,Nat.mul_comm,show x.toNat-128=x.toNat % 128 from by omega,Nat.add_assoc]
theorem oB {bs:List UInt8}{at_ i acc wt:Nat}(hi:i≤8)(h:bs.length≤at_+i)(hI:iT 9 0 (bs.drop at_)=lift acc wt i (iT (9-i) i (bs.drop (at_+i)))):ft bs at_=(0,0,50):=by
 rw[List.drop_of_length_le h,show 9-i=8-i+1 from by omega]at hI;unfold ft;rw[hI];rfl
theorem qI {bs:List UInt8}{at_ i acc wt:Nat}{x:UInt8}(hi:i≤8)(hx:bs[at_+i]?=some x)(h0:x.toNat=0)(hi0:0<i)(hI:iT 9 0 (bs.drop at_)=lift acc wt i (iT (9-i) i (bs.drop (at_+i)))):ft bs at_=(0,0,51):=by
 rw[xi hx,show 9-i=8-i+1 from by omega,iT,if_pos (by omega),if_pos ⟨h0,hi0⟩]at hI;unfold ft;rw[hI];rfl
theorem qm {bs:List UInt8}{at_ i acc wt:Nat}{x:UInt8}(hi:i≤8)(hx:bs[at_+i]?=some x)(hlt:x.toNat<128)(h0:¬(x.toNat=0∧0<i))(hI:iT 9 0 (bs.drop at_)=lift acc wt i (iT (9-i) i (bs.drop (at_+i)))):ft bs at_=(acc+x.toNat * wt,at_+i+1,0):=by
 rw[xi hx,show 9-i=8-i+1 from by omega,iT,if_pos hlt,if_neg h0]at hI;unfold ft;rw[hI];simp only[lift,if_true,Prod.mk.injEq,and_true];exact⟨by rw[Nat.mul_comm],by omega⟩
theorem u7 {bs:List UInt8}{at_ acc wt:Nat}(hI:iT 9 0 (bs.drop at_)=lift acc wt 9 (iT 0 9 (bs.drop (at_+9)))):ft bs at_=(0,0,51):=by
 unfold ft;rw[hI];rfl
theorem EP (bs:List UInt8)(at_:Nat):iT 9 0 (bs.drop at_)=lift 0 1 0 (iT (9-0) 0 (bs.drop (at_+0))):=(F3 _ (DY 9 0 _)).symm
theorem G1 {acc wt x:Nat}(h:acc<wt)(hx:x<128):acc+x * wt<wt * 128:=by
 have h1:x * wt≤127 * wt:=Nat.mul_le_mul_right _ (by omega);omega
theorem ky (W w:World)(L:List As)(A:Option Addr)(c:Nat)(bs:List UInt8)(v:Nat)(O:Sat W w (row 5 1 (.slice A (bs).length c) (bs).length ((bs).map ai)::L))(hv:v≤9223372036854775807)(hb:bs.length≤140737488355000):Calls Tryz.prog 144 #[.slice A bs.length c,.int .i64 ((v:Nat):Int)] w fun e w'=>∃A' c',e=.returned (.slice A' (bs++aJ v).length c')∧Sat W w' (row 5 1 (.slice A' (bs++aJ v).length c') (bs++aJ v).length ((bs++aJ v).map ai)::L):=by
 refine bP Tryz.func144 [0,1] ?_;refine uC 7 ?_;intro a I;refine wp_loop_ghost (fun (mm:Nat) a w=>∃(A':Option Addr) (c':Nat) (ds:List UInt8) (m:Nat),Ag a 21 [(0,.slice A' (bs++ds).length c'),(1,.int .i64 ((m:Nat):Int))]∧Sat W w (row 5 1 (.slice A' (bs++ds).length c') (bs++ds).length ((bs++ds).map ai)::L)∧(ds++aJ m=aJ v)∧(m≤v)∧mm=m) v ?_ ?_
 ·replace I:=I.kp [0,1] rfl;rw[←List.append_nil bs]at O I;exact⟨_,_,[],v,I,O,(by rfl),(by omega),by omega⟩
 intro m a w hI;clear O I;obtain⟨A',c',ds,m,I,O,hm,hmv,rfl⟩:=hI;have h9:=bc hv;have hdl:=congrArg List.length hm;rw[List.length_append]at hdl;have hnp:=cI m;refine rC 4 I ?_;clear I a;refine aM 0 0 (ek rfl rfl) ?_ ?_
 ·intro h6;refine uO 10 ?_;refine u1 0 (hU rfl rfl (by omega) (by omega)) ?_;refine u1 0 (jv rfl pJ oZ (by omega) (by omega)) ?_;refine u1 0 (Hs rfl rfl (by omega) (by omega)) ?_;intro a I;refine nw I rfl rfl a7 jt rfl rfl rfl (by simp[Value.oneCell']) O ?_;clear I a O;intro A12 w O;intro a I;refine cZ I rfl rfl rfl a7 jt rfl (O.p 1) (O.rd.src a7 (by simp[Value.oneCell'])) (by simp only[List.length_append];omega) (by simp only[List.length_append];omega) ?_;clear I a O;intro A13 c13 w hc13 O;refine uO 5 ?_;refine u1 3 (kz rfl rfl (by omega) (by omega) (by omega)) ?_;intro a I;replace I:=I.kp [0,1] rfl;have hge:=ng (n:=m) (by omega);have hnc:=kY (x:=m % 128+128) (by omega)
  have e1:(bs++ds).map ai++[Value.int .u8 ((m:Int) % 128+128)]=(bs++(ds++[UInt8.ofNat (m % 128+128)])).map ai:=by rw[show ((m:Int) % 128+128:Int)=((m % 128+128:Nat):Int) from by omega,hnc];simp
  have e2:(bs++ds).length+1=(bs++(ds++[UInt8.ofNat (m % 128+128)])).length:=by simp;try omega
  have e3:((m:Int) / 128)=((m / 128:Nat):Int):=by omega
  rw[e1,e2]at O;rw[e2,e3]at I;have e4:(ds++[UInt8.ofNat (m % 128+128)])++aJ (m / 128)=aJ v:=by rw[←hm,hge];simp
  have e5:=congrArg List.length e4;have e6:=cI (m / 128);simp only[List.length_append,List.length_cons,List.length_nil]at e5;exact⟨m / 128,by omega,_,_,ds++[UInt8.ofNat (m % 128+128)],m / 128,I,(O.p 1).drop,e4,by omega,rfl⟩
 ·intro h6;refine uO 12 ?_;refine u1 0 (jv rfl pJ oZ (by omega) (by omega)) ?_;intro a I;refine nw I rfl rfl a7 jt rfl rfl rfl (by simp[Value.oneCell']) O ?_;clear I a O;intro A19 w O;intro a I;refine cZ I rfl rfl rfl a7 jt rfl (O.p 1) (O.rd.src a7 (by simp[Value.oneCell'])) (by simp only[List.length_append];omega) (by simp only[List.length_append];omega) ?_;clear I a O;intro A20 c20 w hc20 O;refine uO 4 ?_;refine aU ?_;have hlt:=fG (n:=m) (by omega);have hnc:=kY (x:=m) (by omega);have e1:(bs++ds).map ai++[Value.int .u8 (m:Int)]=(bs++aJ v).map ai:=by rw[hnc,←hm,hlt];simp
  have e2:(bs++ds).length+1=(bs++aJ v).length:=by rw[←hm,hlt];simp;try omega
  rw[e1,e2]at O;rw[e2];exact⟨_,_,rfl,(O.p 1).drop⟩
theorem qh (W:World)(v:Nat)(hv:v≤9223372036854775807):Calls Tryz.prog 85 #[.int .i64 ((v:Nat):Int)] W fun e w'=>∃A' c',e=.returned (.slice A' (aJ v).length c')∧Sat W w' [row 5 1 (.slice A' (aJ v).length c') (aJ v).length ((aJ v).map ai)]:=by
 refine bP Tryz.func85 [0] ?_;have O:=Sat.start W;refine uC 12 ?_;intro a I;refine wp_loop_ghost (fun (mm:Nat) a w=>∃(A':Option Addr) (c':Nat) (ds:List UInt8) (m:Nat),Ag a 20 [(0,.int .i64 ((m:Nat):Int)),(3,.slice A' ds.length c')]∧Sat W w ([row 5 1 (.slice A' (ds).length c') (ds).length ((ds).map ai)])∧(ds++aJ m=aJ v)∧(m≤v)∧mm=m) v ?_ ?_
 ·replace I:=I.kp [0,3] rfl;replace O:=O.aW 5 1;exact⟨none,0,[],v,I,O,(by rfl),(by omega),by omega⟩
 intro m a w hI;clear O I;obtain⟨A',c',ds,m,I,O,hm,hmv,rfl⟩:=hI;have h9:=bc hv;have hdl:=congrArg List.length hm;rw[List.length_append]at hdl;have hnp:=cI m;refine rC 4 I ?_;clear I a;refine aM 0 0 (ek rfl rfl) ?_ ?_
 ·intro h5;refine uO 10 ?_;refine u1 0 (hU rfl rfl (by omega) (by omega)) ?_;refine u1 0 (ad rfl rfl) ?_;refine u1 0 (jv rfl pJ oZ (by omega) (by omega)) ?_;intro a I;refine nw I rfl rfl a7 jt rfl rfl rfl (by simp[Value.oneCell']) O ?_;clear I a O;intro A11 w O;intro a I;refine cZ I rfl rfl rfl a7 jt rfl (O.p 1) (O.rd.src a7 (by simp[Value.oneCell'])) (by omega) (by omega) ?_;clear I a O;intro A12 c12 w hc12 O;refine uO 5 ?_;refine u1 3 (kz rfl rfl (by omega) (by omega) (by omega)) ?_;intro a I;replace I:=I.kp [0,3] rfl;have hge:=ng (n:=m) (by omega);have hnc:=kY (x:=m % 128+128) (by omega);have e1:(ds).map ai++[Value.int .u8 (128+(m:Int) % 128)]=((ds++[UInt8.ofNat (m % 128+128)])).map ai:=by rw[show (128+(m:Int) % 128:Int)=((m % 128+128:Nat):Int) from by omega,hnc];simp
  have e2:(ds).length+1=((ds++[UInt8.ofNat (m % 128+128)])).length:=by simp;try omega
  have e3:((m:Int) / 128)=((m / 128:Nat):Int):=by omega
  rw[e1,e2]at O;rw[e2,e3]at I;have e4:(ds++[UInt8.ofNat (m % 128+128)])++aJ (m / 128)=aJ v:=by rw[←hm,hge];simp
  have e5:=congrArg List.length e4;have e6:=cI (m / 128);simp only[List.length_append,List.length_cons,List.length_nil]at e5;exact⟨m / 128,by omega,_,_,ds++[UInt8.ofNat (m % 128+128)],m / 128,I,(O.p 1).drop,e4,by omega,rfl⟩
 ·intro h5;refine uO 12 ?_;refine u1 0 (jv rfl pJ oZ (by omega) (by omega)) ?_;intro a I;refine nw I rfl rfl a7 jt rfl rfl rfl (by simp[Value.oneCell']) O ?_;clear I a O;intro A18 w O;intro a I;refine cZ I rfl rfl rfl a7 jt rfl (O.p 1) (O.rd.src a7 (by simp[Value.oneCell'])) (by omega) (by omega) ?_;clear I a O;intro A19 c19 w hc19 O;refine uO 4 ?_;refine aU ?_;have hlt:=fG (n:=m) (by omega);have hnc:=kY (x:=m) (by omega);have e1:(ds).map ai++[Value.int .u8 (m:Int)]=(aJ v).map ai:=by rw[hnc,←hm,hlt];simp
  have e2:(ds).length+1=(aJ v).length:=by rw[←hm,hlt];simp;try omega
  rw[e1,e2]at O;rw[e2];exact⟨_,_,rfl,(O.p 1).drop⟩
theorem xF (W:World)(A:Option Addr)(c:Nat)(bs:List UInt8)(at_:Nat)(hR:Rd W 1 (.slice A bs.length c) bs.length (bs.map ai))(hat:at_≤bs.length)(hb:bs.length≤140737488355328):Calls Tryz.prog 150 #[.slice A bs.length c,.int .i64 ((at_:Nat):Int)] W fun e w'=>e=.returned (.tuple #[.int .i64 (((ft bs at_).1:Nat):Int),.int .i64 (((ft bs at_).2.1:Nat):Int),.int .i64 (((ft bs at_).2.2:Nat):Int)])∧Sat W w' []:=by
 refine bP Tryz.func150 [0,1] ?_;have O:=Sat.start W;refine uC 19 ?_;intro a I;refine wp_loop_ghost (fun (mm:Nat) a w=>∃(acc i wt:Nat),Ag a 47 [(0,.slice A bs.length c),(1,.int .i64 ((at_:Nat):Int)),(7,.int .i64 ((acc:Nat):Int)),(10,.int .i64 ((i:Nat):Int))]∧Sat W w ([])∧(i≤9)∧(acc<wt)∧(nU wt i)∧(iT 9 0 (bs.drop at_)=lift acc wt i (iT (9-i) i (bs.drop (at_+i))))∧mm=9-i) 9 ?_ ?_
 ·replace I:=I.kp [0,1,7,10] rfl;exact⟨0,0,1,I,O,(by omega),(by omega),(by exact nU.zero),(by exact EP _ _),by omega⟩
 intro m a w hI;clear O I;obtain⟨acc,i,wt,I,O,hi,hac,hw,hI,rfl⟩:=hI;refine rC 2 I ?_;clear I a;refine aM 0 0 (aq rfl rfl) ?_ ?_
 ·intro h11;refine uO 19 ?_;refine u1 1 (ad rfl rfl) ?_;refine u1 0 (ak rfl a7) ?_;refine aM 0 0 (ek rfl rfl) ?_ ?_
  ·intro h18;refine uO 17 ?_;intro a I;refine E7 I rfl rfl rfl rfl ?_
   first
    | (rw[oB (by omega) (by omega) hI];exact⟨rfl,O⟩)
    | (rw[qI (by omega) hx' (by omega) (by omega) hI];exact⟨rfl,O⟩)
    | (rw[qm (by omega) hx' (by omega) (by omega) hI,show x.toNat % 128=x.toNat from by omega];exact⟨rfl,O⟩)
    | (obtain rfl:i=9:=(by omega);rw[u7 hI];exact⟨rfl,O⟩)
  ·intro h18;refine uO 10 ?_;refine u1 0 (ad rfl rfl) ?_;obtain⟨A_p,rfl⟩:∃q,A=some q:=(hR.sat O).ao (by omega);obtain⟨x,hx⟩:∃zz_,bs[((at_:Int)+(i:Int)).toNat]?=some zz_:=⟨_,List.getElem?_eq_getElem (by omega)⟩;have hx':bs[at_+i]?=some x:=by rw[←hx];congr 1
   have hxl:=BY x;refine u1 0 (ix rfl rfl a7 y8) ?_;refine u1 7 (an rfl E8 (gb (hR.sat O) (bu hx))) ?_;refine u1 0 (aI (I1 rfl rfl) (congrArg (Value.int .u8) (Hu x))) ?_;refine u1 1 (pU rfl oZ pJ (by simp only[IntKind.min,IntKind.signed,IntKind.bits];omega) (by simp only[IntKind.max,IntKind.signed,IntKind.bits];omega)) ?_;refine u1 0 (Bp rfl rfl (by omega) (by omega)) ?_;refine u1 0 (aI (Ho rfl rfl (by omega)) (congrArg (Value.int .i64) (JJ (by omega) (by omega) hw))) ?_;refine u1 6 (aI (JR rfl rfl) (congrArg (Value.int .i64) (Ke hac (by omega) (by omega) hw))) ?_;refine aM 0 0 (aq rfl rfl) ?_ ?_
   ·intro h34;refine uO 7 ?_;refine aM 0 0 (aY rfl rfl) ?_ ?_
    ·intro h36;refine uO 2 ?_;refine aM 0 0 (db rfl rfl) ?_ ?_
     ·intro h39;refine uO 18 ?_;intro a I;refine E7 I rfl rfl rfl rfl ?_
      first
       | (rw[oB (by omega) (by omega) hI];exact⟨rfl,O⟩)
       | (rw[qI (by omega) hx' (by omega) (by omega) hI];exact⟨rfl,O⟩)
       | (rw[qm (by omega) hx' (by omega) (by omega) hI,show x.toNat % 128=x.toNat from by omega];exact⟨rfl,O⟩)
       | (obtain rfl:i=9:=(by omega);rw[u7 hI];exact⟨rfl,O⟩)
     ·intro h39;refine uO 11 ?_;refine u1 0 (ad rfl rfl) ?_;refine u1 11 (ad rfl rfl) ?_;intro a I;refine E7 I rfl rfl rfl rfl ?_
      first
       | (rw[oB (by omega) (by omega) hI];exact⟨rfl,O⟩)
       | (rw[qI (by omega) hx' (by omega) (by omega) hI];exact⟨rfl,O⟩)
       | (rw[qm (by omega) hx' (by omega) (by omega) hI,show x.toNat % 128=x.toNat from by omega];exact⟨rfl,O⟩)
       | (obtain rfl:i=9:=(by omega);rw[u7 hI];exact⟨rfl,O⟩)
    ·intro h36;refine uO 14 ?_;refine u1 0 (ad rfl rfl) ?_;refine u1 11 (ad rfl rfl) ?_;intro a I;refine E7 I rfl rfl rfl rfl ?_
     first
      | (rw[oB (by omega) (by omega) hI];exact⟨rfl,O⟩)
      | (rw[qI (by omega) hx' (by omega) (by omega) hI];exact⟨rfl,O⟩)
      | (rw[qm (by omega) hx' (by omega) (by omega) hI,show x.toNat % 128=x.toNat from by omega];exact⟨rfl,O⟩)
      | (obtain rfl:i=9:=(by omega);rw[u7 hI];exact⟨rfl,O⟩)
   ·intro h34;refine uO 7 ?_;refine u1 2 (ad rfl rfl) ?_;intro a I;replace I:=I.kp [0,1,7,10] rfl;have hm7:=Hn (x:=x.toNat % 128) (by omega) hw (by omega);rw[show ((i:Int)+1)=((i+1:Nat):Int) from rfl]at I;exact⟨9-(i+1),by omega,acc+x.toNat % 128 * wt,i+1,wt * 128,I,O,by omega,G1 hac (by omega),hw.succ,by rw[hI];exact F2 (by omega) hx' (by omega),rfl⟩
 ·intro h11;refine uO 17 ?_;intro a I;refine E7 I rfl rfl rfl rfl ?_
  first
   | (rw[oB (by omega) (by omega) hI];exact⟨rfl,O⟩)
   | (rw[qI (by omega) hx' (by omega) (by omega) hI];exact⟨rfl,O⟩)
   | (rw[qm (by omega) hx' (by omega) (by omega) hI,show x.toNat % 128=x.toNat from by omega];exact⟨rfl,O⟩)
   | (obtain rfl:i=9:=(by omega);rw[u7 hI];exact⟨rfl,O⟩)
def gM (bs:List UInt8)(i:Nat)(mo:Int):Nat×Nat×Nat:=if (ft bs i).2.2≠0 then (0,0,(ft bs i).2.2) else if mo<((ft bs i).1:Int) then (0,0,51) else ((ft bs i).1,(ft bs i).2.1,0)
theorem s7 {bs:List UInt8}{i:Nat}{mo:Int}(h:(ft bs i).2.2≠0):gM bs i mo=(0,0,(ft bs i).2.2):=if_pos h
theorem vp {bs:List UInt8}{i:Nat}{mo:Int}(h:(ft bs i).2.2=0)(h2:mo<((ft bs i).1:Int)):gM bs i mo=(0,0,51):=by unfold gM;rw[if_neg (by omega),if_pos h2]
theorem ux {bs:List UInt8}{i:Nat}{mo:Int}(h:(ft bs i).2.2=0)(h2:((ft bs i).1:Int)≤mo):gM bs i mo=((ft bs i).1,(ft bs i).2.1,0):=by unfold gM;rw[if_neg (by omega),if_neg (by omega)]
theorem BW {bs:List UInt8}{i:Nat}{mo:Int}(hi:i≤bs.length):(gM bs i mo).2.2≠0∨((gM bs i mo).2.2=0∧i<(gM bs i mo).2.1∧(gM bs i mo).2.1≤bs.length∧(gM bs i mo).1≤9223372036854775807):=by
 unfold gM
 by_cases h:(ft bs i).2.2=0
 ·
  obtain⟨k1,k2,k3,k4,k5,k6⟩:=r8 h;rw[if_neg (by omega)]
  split
  ·
   simp
  ·
   simp;omega
 ·
  rw[if_pos h];simp[h]
def nu (bs:List UInt8)(i:Nat)(mo:Int):List UInt8×Nat×Nat:=if (gM bs i mo).2.2≠0 then ([],0,(gM bs i mo).2.2) else if bs.length-(gM bs i mo).2.1<(gM bs i mo).1 then ([],0,50) else ((bs.drop (gM bs i mo).2.1).take (gM bs i mo).1,(gM bs i mo).2.1+(gM bs i mo).1,0)
theorem s4 {bs:List UInt8}{i:Nat}{mo:Int}(h:(gM bs i mo).2.2≠0):nu bs i mo=([],0,(gM bs i mo).2.2):=if_pos h
theorem oS {bs:List UInt8}{i:Nat}{mo:Int}(h:(gM bs i mo).2.2=0)(h2:bs.length-(gM bs i mo).2.1<(gM bs i mo).1):nu bs i mo=([],0,50):=by unfold nu;rw[if_neg (by omega),if_pos h2]
theorem tq {bs:List UInt8}{i:Nat}{mo:Int}(h:(gM bs i mo).2.2=0)(h2:(gM bs i mo).1≤bs.length-(gM bs i mo).2.1):nu bs i mo=((bs.drop (gM bs i mo).2.1).take (gM bs i mo).1,(gM bs i mo).2.1+(gM bs i mo).1,0):=by unfold nu;rw[if_neg (by omega),if_neg (by omega)]
theorem BX {bs:List UInt8}{i:Nat}{mo:Int}:(nu bs i mo).1.length≤bs.length:=by
 unfold nu
 (repeat' split)
 ·
  simp
 ·
  simp
 ·
  simp;omega
theorem En {w:World}{A:Option Addr}{c:Nat}{bs:List UInt8}(h:Rd w 1 (.slice A bs.length c) bs.length (bs.map ai))(i n:Nat)(hi:i+n≤bs.length) :
 Rd w 1 (.slice (ja A c 1 i) ((bs.drop i).take n).length (c-i)) ((bs.drop i).take n).length (((bs.drop i).take n).map ai):=by
 have h':=h.cut i (i+n) (by omega) hi;have e:((bs.drop i).take n).length=i+n-i:=by simp;omega
 rw[e]
 have e2:((bs.map ai).drop (i * 1)).take ((i+n-i) * 1)=((bs.drop i).take n).map ai:=by
  rw[List.map_take,List.map_drop,Nat.mul_one,Nat.mul_one];congr 1;omega
 rw[e2]at h';exact h'
theorem Cr {A:Option Addr}{c:Nat}{bs:List UInt8}{i j n:Nat}(hj:j=i+n)(hn:j≤bs.length):(Value.slice (ja A c 1 ((i:Int)).toNat) (((j:Int)).toNat-((i:Int)).toNat) (c-((i:Int)).toNat))=.slice (ja A c 1 i) ((bs.drop i).take n).length (c-i):=by
 subst hj;have:((bs.drop i).take n).length=n:=by simp;omega
 rw[this];simp;omega
def str (bs:List UInt8):ByteArray:=⟨bs.toArray⟩
theorem nX (bs:List UInt8):(str bs).data.toList=bs:=rfl
theorem nN (W:World)(A:Option Addr)(c:Nat)(bs:List UInt8)(hR:Rd W 1 (.slice A bs.length c) bs.length (bs.map ai))(hn:bs.length≤140737488355328):Calls Tryz.prog 146 #[.slice A bs.length c] W fun e w'=>∃A' c',e=.returned (.slice A' bs.length c')∧Sat W w' [row 5 1 (.slice A' (bs).length c') (bs).length ((bs).map ai)]:=by
 refine bP Tryz.func146 [0] ?_;have O:=Sat.start W;refine uC 9 ?_;refine nk 0 0 (z1 rfl rfl a7) ?_ ?_
 ·intro h4;refine uO 10 ?_;refine aU ?_;obtain rfl:A=none:=by simpa using h4
  obtain⟨h1,h2⟩:=hR.nil;obtain rfl:bs=[]:=List.eq_nil_of_length_eq_zero h1;exact⟨none,0,rfl,O.aW _ _⟩
 ·intro h4;refine uO 7 ?_;intro a I;refine y5 I rfl a7 jt O ?_;clear I a O;intro A5 w O;refine uO 1 ?_;intro a I;refine cZ I rfl rfl rfl a7 jt rfl O ((hR.sat O).src a7 (tz bs)) (by omega) (by omega) ?_;clear I a O;intro A7 c7 w hc7 O;refine uO 4 ?_;refine aU ?_;simp only[Nat.zero_add,List.nil_append]at O ⊢;exact⟨_,_,rfl,O⟩
theorem vf (W w:World)(L:List As)(A:Option Addr)(c:Nat)(bs:List UInt8)(B:Option Addr)(d:Nat)(b:List UInt8)(O:Sat W w (row 5 1 (.slice A (bs).length c) (bs).length ((bs).map ai)::L))(hR:∀w' M,Sat W w' (M::L)→Rd w' 1 (.slice B b.length d) b.length (b.map ai))(hl:bs.length+b.length≤140737488354000):Calls Tryz.prog 145 #[.slice A bs.length c,.slice B b.length d] w fun e w'=>∃A' c',e=.returned (.slice A' (bs++(aJ b.length++b)).length c')∧Sat W w' (row 5 1 (.slice A' (bs++(aJ b.length++b)).length c') (bs++(aJ b.length++b)).length ((bs++(aJ b.length++b)).map ai)::L):=by
 refine bP Tryz.func145 [0,1] ?_;refine uC 9 ?_;refine u1 0 (ak rfl a7) ?_;refine uF rfl (ky _ _ _ _ _ _ b.length O (by omega) (by omega)) ?_;clear O;rintro e w ⟨A1,c1,rfl,O⟩;have h9:=bc (n:=b.length) (by omega);have h8:(bs++aJ b.length).length=bs.length+(aJ b.length).length:=by simp
 refine uO 1 ?_;intro a I;refine cZ I rfl rfl rfl a7 jt rfl O ((hR _ _ O).src a7 (tz b)) (by omega) (by omega) ?_;clear I a O;intro A10 c10 w hc10 O;refine uO 4 ?_;refine aU ?_;have e1:(bs++aJ b.length).length+b.length=(bs++(aJ b.length++b)).length:=by simp;omega
 rw[e1,←List.map_append,List.append_assoc]at O;rw[e1];exact⟨_,_,rfl,O⟩
theorem vC (W w:World)(L:List As)(A:Option Addr)(c:Nat)(bs:List UInt8)(s:ByteArray)(O:Sat W w (row 5 1 (.slice A (bs).length c) (bs).length ((bs).map ai)::L))(hl:bs.length+s.size≤140737488354000):Calls Tryz.prog 412 #[.slice A bs.length c,.string s] w fun e w'=>∃A' c',e=.returned (.slice A' (bs++(aJ s.data.toList.length++s.data.toList)).length c')∧Sat W w' (row 5 1 (.slice A' (bs++(aJ s.data.toList.length++s.data.toList)).length c') (bs++(aJ s.data.toList.length++s.data.toList)).length ((bs++(aJ s.data.toList.length++s.data.toList)).map ai)::L):=by
 refine bP Tryz.func412 [0,1] ?_;have hsz:s.data.toList.length=s.size:=rfl;refine uC 9 ?_;refine u1 0 (gZ rfl xj) ?_;refine uF rfl (ky _ _ _ _ _ _ s.size O (by omega) (by omega)) ?_;clear O;rintro e w ⟨A1,c1,rfl,O⟩;have h9:=bc (n:=s.size) (by omega);have h8:(bs++aJ s.size).length=bs.length+(aJ s.size).length:=by simp
 refine uO 1 ?_;intro a I;refine cZ I rfl rfl rfl a7 jt rfl O (Src.ofString _ xj s) (by omega) (by omega) ?_;clear I a O;intro A10 c10 w hc10 O;refine uO 4 ?_;refine aU ?_;have e1:(bs++aJ s.size).length+s.size=(bs++(aJ s.data.toList.length++s.data.toList)).length:=by simp[hsz];omega
 rw[e1,xm,←List.map_append,List.append_assoc]at O;rw[e1];exact⟨_,_,rfl,O⟩
def pb (kd n:Int)(b:Bool)(s:ByteArray):List UInt8×Bool:=
 if kd=1 then (if n<0 then ([],false) else (aJ n.toNat,true))
 else if kd=2 then ([if b then 1 else 0],true)
 else if kd=3∨kd=4 then (aJ s.data.toList.length++s.data.toList,true)
 else ([],true)
theorem FI {n:Int}{b:Bool}{s:ByteArray}(h:n<0):pb 1 n b s=([],false):=by unfold pb;rw[if_pos rfl,if_pos h]
theorem qj {n:Int}{b:Bool}{s:ByteArray}(h:¬n<0):pb 1 n b s=(aJ n.toNat,true):=by unfold pb;rw[if_pos rfl,if_neg h]
theorem Gp {kd n:Int}{b:Bool}{s:ByteArray}(h:kd=3∨kd=4):pb kd n b s=(aJ s.data.toList.length++s.data.toList,true):=by unfold pb;rw[if_neg (by omega),if_neg (by omega),if_pos h]
def Gs (p:Nat)(A:Option Addr)(c:Nat)(bs:List UInt8)(bad:Bool):As:=aV p (.cells #[.slice A bs.length c,.bool bad] 263)
theorem eG (W:World)   : Calls Tryz.prog 89 #[] W fun e w'=>∃p,e=.returned (.pointer (some ⟨p,0,none⟩))∧Sat W w' [Gs p none 0 ([]) false]:=by
 refine bP Tryz.func89 [] ?_;have O:=Sat.start W;refine uC 7 ?_;intro a I;refine o1 0 I (aL I rfl G9) ?_;clear I a;refine uB rfl O ?_;clear O;intro b2 w O;refine uO 4 ?_;refine aU ?_;exact⟨_,rfl,O⟩
theorem fw (W w:World)(L:List As)(p:Nat)(A:Option Addr)(c:Nat)(bs:List UInt8)(bad:Bool)(n:Int)(O:Sat W w (Gs p A c (bs) bad::row 5 1 (.slice A (bs).length c) (bs).length ((bs).map ai)::L))(hl:bs.length≤140737488350000)(hn:n≤9223372036854775807):Calls Tryz.prog 90 #[.pointer (some ⟨p,0,none⟩),.int .i64 n] w fun e w'=>e=.returned (.tuple #[])∧∃A' c',Sat W w' (Gs p A' c' (bs++(pb 1 n false .empty).1) (bad || !(pb 1 n false .empty).2)::row 5 1 (.slice A' (bs++(pb 1 n false .empty).1).length c') (bs++(pb 1 n false .empty).1).length ((bs++(pb 1 n false .empty).1).map ai)::L):=by
 refine bP Tryz.func90 [0,1] ?_;intro a I;change Sat W w (aV p (.cells #[.slice A bs.length c,.bool bad] 263)::_) at O;refine rC 4 I ?_;clear I a;refine nk 0 0 (uU rfl rfl wI) ?_ ?_
 ·intro h5;intro a I;contradiction
 ·intro h5;refine uO 9 ?_;refine aM 0 0 (aq rfl rfl) ?_ ?_
  ·intro h7;refine uO 6 ?_;refine u1 0 (aX rfl) ?_;refine u1 0 (aa rfl s8) ?_;intro a I;refine mO I rfl rfl EW GJ rfl O rfl ?_;clear O;intro w O;refine rO 4 I ?_;clear I a;intro a I;refine ji I rfl  ?_
   first
    | (rw[FI (by omega)];refine⟨rfl,A,c,?_⟩;simp only[List.append_nil,Bool.not_false,Bool.or_true];exact O)
    | (rw[qj (by omega),Int.toNat_natCast];refine⟨rfl,A1,c1,?_⟩;simp only[Bool.not_true,Bool.or_false];exact O)
  ·intro h7;refine uO 8 ?_;refine u1 0 (aX rfl) ?_;refine u1 0 (aa rfl jy) ?_;refine u1 0 (ld rfl) ?_;obtain⟨m,rfl⟩:=Int.eq_ofNat_of_zero_le (show 0≤n by omega);refine uO 1 ?_;refine uF rfl (ky _ _ _ _ _ _ m (O.p 1) (by omega) (by omega)) ?_;clear O;rintro e w ⟨A1,c1,rfl,O⟩;refine u1 0 (aX rfl) ?_;refine u1 0 (aa rfl jy) ?_;intro a I;refine mO I rfl rfl nH jO rfl (O.p 1) rfl ?_;clear O;intro w O;refine rO 1 I ?_;clear I a;intro a I;refine fI (e:=.ret) ?_;refine ji I rfl  ?_
   first
    | (rw[FI (by omega)];refine⟨rfl,A,c,?_⟩;simp only[List.append_nil,Bool.not_false,Bool.or_true];exact O)
    | (rw[qj (by omega),Int.toNat_natCast];refine⟨rfl,A1,c1,?_⟩;simp only[Bool.not_true,Bool.or_false];exact O)
theorem jJ (W w:World)(L:List As)(p:Nat)(A:Option Addr)(c:Nat)(bs:List UInt8)(bad:Bool)(s:ByteArray)(B:Option Addr)(d:Nat)(O:Sat W w (Gs p A c (bs) bad::row 5 1 (.slice A (bs).length c) (bs).length ((bs).map ai)::L))(hl:bs.length≤140737488350000)(hR:∀w' M N,Sat W w' (M::N::L)→Rd w' 1 (.slice B s.data.toList.length d) s.data.toList.length (s.data.toList.map ai))(hl2:bs.length+s.data.toList.length≤140737488350000):Calls Tryz.prog 91 #[.pointer (some ⟨p,0,none⟩),.slice B s.data.toList.length d] w fun e w'=>e=.returned (.tuple #[])∧∃A' c',Sat W w' (Gs p A' c' (bs++(pb 4 0 false s).1) bad::row 5 1 (.slice A' (bs++(pb 4 0 false s).1).length c') (bs++(pb 4 0 false s).1).length ((bs++(pb 4 0 false s).1).map ai)::L):=by
 refine bP Tryz.func91 [0,1] ?_;intro a I;change Sat W w (aV p (.cells #[.slice A bs.length c,.bool bad] 263)::_) at O;refine rC 3 I ?_;clear I a;refine nk 0 0 (E5 rfl rfl wI) ?_ ?_
 ·intro h5;refine uO 6 ?_;refine u1 0 (aX rfl) ?_;refine u1 0 (aa rfl jy) ?_;refine u1 1 (ld rfl) ?_;refine uF rfl (vf _ _ _ _ _ _ B d s.data.toList (O.p 1) (fun w' M s=>hR w' M _ s) (by omega)) ?_;clear O;rintro e w ⟨A1,c1,rfl,O⟩;refine u1 0 (aX rfl) ?_;refine u1 0 (aa rfl jy) ?_;intro a I;refine mO I rfl rfl nH jO rfl (O.p 1) rfl ?_;clear O;intro w O;refine rO 1 I ?_;clear I a;intro a I;refine fI (e:=.ret) ?_;refine ji I rfl  ?_;exact⟨rfl,_,_,O⟩
 ·intro h5;intro a I;contradiction
theorem pP (W:World)(W0:World)(L:List As)(p:Nat)(A:Option Addr)(c:Nat)(bs:List UInt8)(bad:Bool)(s0:Sat W0 W (Gs p A c (bs) bad::L))(hR:Rd W 1 (.slice A bs.length c) bs.length (bs.map ai))(hl:bs.length≤140737488350000):Calls Tryz.prog 92 #[.pointer (some ⟨p,0,none⟩)] W fun e w'=>∃A' c',e=.returned (.tuple #[.slice A' (if bad then [] else bs).length c',.int .i64 (((if bad then 2 else 0):Nat):Int)])∧Sat W w' [row 5 1 (.slice A' (if bad then [] else bs).length c') (if bad then [] else bs).length ((if bad then [] else bs).map ai)]:=by
 refine bP Tryz.func92 [0] ?_;have O:=Sat.start W;intro a I;change Sat W0 W (aV p (.cells #[.slice A bs.length c,.bool bad] 263)::L) at s0;refine rC 10 I ?_;clear I a;refine nk 0 0 (uU rfl rfl wI) ?_ ?_
 ·intro h5;intro a I;contradiction
 ·intro h5;refine uO 2 ?_;refine u1 0 (aX rfl) ?_;refine u1 0 (aa rfl s8) ?_;refine u1 0 (an rfl EW (s0.rh O rfl)) ?_;refine nk 0 0 (uK rfl rfl) ?_ ?_
  ·intro h11;refine uO 11 ?_;refine fx ?_
   first
    | (subst h11;exact⟨none,0,rfl,O.aW 5 1⟩)
    | (subst h11;exact⟨_,_,rfl,O⟩)
  ·intro h11;refine uO 8 ?_;refine u1 0 (aX rfl) ?_;refine u1 0 (aa rfl jy) ?_;refine u1 0 (an rfl nH (s0.rh O rfl)) ?_;refine uF rfl (nN _ _ _ bs (hR.sat O) (by omega)) ?_;rintro e w ⟨A1,c1,rfl,hT⟩;replace O:=O.ar hT;clear hT;refine uO 5 ?_;refine fx ?_
   first
    | (subst h11;exact⟨none,0,rfl,O.aW 5 1⟩)
    | (subst h11;exact⟨_,_,rfl,O⟩)
def hP (r:Nat)(A:Option Addr)(c:Nat)(bs:List UInt8)(at_:Int)(live:Bool)(err:Int):As:=aV r (.cells #[.slice A bs.length c,.int .i64 at_,.bool live,.int .i64 err] 269)
def C1 (bs:List UInt8)(i:Nat)(each:Int):Nat×Nat×Nat:=if (ft bs i).2.2≠0 then (0,0,(ft bs i).2.2) else if ((bs.length:Int)-((ft bs i).2.1:Int)) / max each 1<((ft bs i).1:Int) then (0,0,50) else ((ft bs i).1,(ft bs i).2.1,0)
theorem B8 {bs:List UInt8}{i:Nat}{each:Int}(h:(ft bs i).2.2≠0):C1 bs i each=(0,0,(ft bs i).2.2):=if_pos h
theorem wF {bs:List UInt8}{i:Nat}{each:Int}(h:(ft bs i).2.2=0)(h2:((bs.length:Int)-((ft bs i).2.1:Int)) / max each 1<((ft bs i).1:Int)):C1 bs i each=(0,0,50):=by unfold C1;rw[if_neg (by omega),if_pos h2]
theorem Ak {bs:List UInt8}{i:Nat}{each:Int}(h:(ft bs i).2.2=0)(h2:¬((bs.length:Int)-((ft bs i).2.1:Int)) / max each 1<((ft bs i).1:Int)):C1 bs i each=((ft bs i).1,(ft bs i).2.1,0):=by unfold C1;rw[if_neg (by omega),if_neg h2]
theorem x7 {bs:List UInt8}{i:Nat}:(gM bs i 9223372036854775807).2.2=(ft bs i).2.2∧((ft bs i).2.2=0→(gM bs i 9223372036854775807).1=(ft bs i).1∧(gM bs i 9223372036854775807).2.1=(ft bs i).2.1):=by
 by_cases h:(ft bs i).2.2=0
 ·
  have:=(r8 h).2.2.1;rw[ux h (by omega)];exact⟨h.symm,fun _=>⟨rfl,rfl⟩⟩
 ·
  rw[s7 h];exact⟨rfl,fun h'=>absurd h' h⟩
theorem B3 {w:World}{A:Option Addr}{c:Nat}{bs:List UInt8}{i:Nat}{mo:Int}(h:Rd w 1 (.slice A bs.length c) bs.length (bs.map ai))(hi:i≤bs.length)(h0:(nu bs i mo).2.2=0) :
 Rd w 1 (.slice (ja A c 1 (gM bs i mo).2.1) (nu bs i mo).1.length (c-(gM bs i mo).2.1)) (nu bs i mo).1.length ((nu bs i mo).1.map ai):=by
 rcases BW (mo:=mo) hi with hu | ⟨hu,h1,h2,h3⟩
 ·
  rw[s4 hu]at h0;exact absurd h0 hu
 ·
  by_cases h4:(gM bs i mo).1≤bs.length-(gM bs i mo).2.1
  ·
   rw[tq hu h4];exact En h _ _ (by omega)
  ·
   rw[oS hu (by omega)]at h0;cases h0
end Go.Proofs.YtkjabaihpkbfhaaGreat.Wk
