/- Texts of our own that a row leans on, put together. No condition of their own. -/
import Derived.Test.YtkjabaihpkbfhaaGreatMRowSaveGets2
set_option linter.unusedVariables false
set_option linter.unusedSimpArgs false
set_option maxRecDepth 100000
set_option maxHeartbeats 2000000
namespace Go.Proofs.YtkjabaihpkbfhaaGreat.Wk
open Go Go.RowKit Go.Proofs.YtkjabaihpkbfhaaGreat Go.Proofs.YtkjabaihpkbfhaaGreat.K Go.Proofs.YtkjabaihpkbfhaaGreat.T
theorem eG (W:World)(p:PL)(hp:p.ok W)(hlc:p.d.ab.length≤10000000000)(hlv:p.d.vec.length≤1000000000000):Calls Tryz.prog 180 #[.agg #[.slice p.va p.d.vec.length p.vc,.slice p.ca p.d.ab.length p.cc]] W fun e w'=>e=.returned (.bool (bg p.d))∧Sat W w' []:=by
 refine bS Tryz.func180 [0] ?_;have O:=Sat.start W;refine uC 2 ?_;refine uB rfl O ?_;clear O;intro b1 w O;refine uO 4 ?_;intro a I;refine bf [3] O (by kernel_rfl) ?_;replace O:=O.drew;refine X1 0 [] I rfl (by exact⟨[],O⟩) (fun w hT=>have O:=hT.sat;(aG (cs:=[_,_]) (I.ev rfl) cS aO (by exact O.ao (xs:=[_,_]) rfl))) ?_;clear I a;refine cZ 1 [] rfl (by exact⟨[],O⟩) (fun w hT=>have O:=hT.sat;(lS (cs:=[_,_]) rfl)) ?_;intro a I;refine aE 2 (by kernel_rfl) ?_;refine eF I rfl rfl Ja rfl (l8 _ p (hp.sat O) hlc) ?_;clear I a;rintro e w ⟨q,rfl,hq,hT⟩;have hcn:=i6 p.d;rw[←hq]at hcn;have hcv:=hcn.len;have hcl:=jP p.d;rw[←hq]at hcl;replace O:Sat _ _ (_::_::_):=O.ag hT;clear hT;refine⟨_,rfl,?_⟩;intro a I;refine⟨.inr fun _=>(by exact⟨[_,_],O⟩),?_⟩;refine aE 3 (by kernel_rfl) ?_
 refine eF I rfl rfl Gy rfl (qh _ p q (hp.sat O) ⟨O.rd,(O.p 1).rd⟩ (by omega) (by omega) (by omega) (by omega)) ?_;clear I a;rintro e w ⟨rfl,hT⟩;replace O:Sat _ _ _:=O.ag hT;clear hT;refine⟨_,rfl,?_⟩;intro a I;refine⟨.inl rfl,?_⟩;refine rX [4] I ?_;clear I a;intro a I;refine ah (by kernel_rfl) ?_ _;refine rE 2 I ?_;clear I a;refine aY ?_;refine⟨?_,O.nil⟩
 congr 2
 unfold bg;rw[←hq,decide_eq_decide,eq_comm]
theorem zG (W:World)(p:PL)(hp:p.ok W)(hlc:p.d.ab.length≤10000000000):Calls Tryz.prog 280 #[.agg #[.slice p.va p.d.vec.length p.vc,.slice p.ca p.d.ab.length p.cc]] W fun e w'=>e=.returned (.int .i64 (BT p.d))∧Sat W w' []:=by
 refine bS Tryz.func280 [0] ?_;have O:=Sat.start W;refine uC 2 ?_;refine uB rfl O ?_;clear O;intro b1 w O;refine uO 5 ?_;refine u1 0 (lS (cs:=[_,_]) rfl) ?_;refine uF rfl (pn _ p (hp.sat O) hlc) ?_;rintro e w ⟨ls,rfl,hT1,hT⟩;replace O:=O.aM hT;clear hT;refine uN w8 O ?_;clear O;intro b3 w O;intro a I;refine Gp (ls:=ls) (cs:=((List.replicate 16 (⟨none,0,[]⟩:Loc Int)).map Loc.v)) I rfl rfl qI hT1.1 (by simp) O ?_;clear O;intro w O;refine rO 14 I ?_;clear I a;intro a I;refine wp_loop_ghost (fun (mm:Nat) a w=>∃(r:Nat),Ag a 42 [(3,.pointer (some ⟨b3,0,none⟩)),(4,.int .i64 (((List.range r).map fun r=>c4 (aP p.d r)).sum)),(5,.int .i64 ((r:Nat):Int))]∧Sat W w ([dE 377 b3 ls,bB (ls.map (Loc.fh 3))])∧(r≤16)∧mm=16-r) 16 ?_ ?_
 ·replace I:=I.kp [3,4,5] rfl;exact⟨0,I,n5 O,(by omega),by omega⟩
 intro m a w hI;clear O I;obtain⟨r,I,O,hr,rfl⟩:=hI;refine rC 4 I ?_;clear I a;refine aJ 0 0 (aq rfl rfl) ?_ ?_
 ·intro h10;obtain⟨lA,lc,hl⟩:=hT1.get (show r<16 by omega);have hpl:=jY (aP p.d r);have hcr:=bG p.d r;have hs1:=tm p.d r;intro a I
  have hnl:(aP p.d r).length≤100000000000:=by
   have:=cK (cR p.d r);have:=eC p.d r;unfold aP;omega
  refine rO 13 I ?_;clear I a;intro a I;refine wp_loop_ghost (fun (mm:Nat) a w=>∃(q:Nat),Ag a 42 [(3,.pointer (some ⟨b3,0,none⟩)),(4,.int .i64 (((List.range r).map fun r=>c4 (aP p.d r)).sum+c4 ((aP p.d r).take q))),(5,.int .i64 ((r:Nat):Int)),(6,.int .i64 (((2 * q):Nat):Int))]∧Sat W w ([dE 377 b3 ls,bB (ls.map (Loc.fh 3))])∧(q≤(aP p.d r).length)∧mm=(aP p.d r).length-q) (aP p.d r).length ?_ ?_
  ·replace I:=I.kp [3,4,5,6] rfl;rw[show ((List.range r).map fun r=>c4 (aP p.d r)).sum=((List.range r).map fun r=>c4 (aP p.d r)).sum+c4 ((aP p.d r).take 0) from by rw[List.take_zero];show _=_+0;omega]at I;exact⟨0,I,O,(by omega),by omega⟩
  intro m a w hI;clear O I;obtain⟨q,I,O,hq,rfl⟩:=hI;refine rC 4 I ?_;clear I a;refine u1 1 (ad rfl rfl) ?_;refine u1 0 (aa rfl ia) ?_;refine u1 0 (iA rfl rfl fx fK) ?_;refine u1 0 (an rfl gU (jM O hl)) ?_;refine u1 0 (ak rfl ax) ?_;refine aJ 0 0 (aq rfl rfl) ?_ ?_
  ·intro h20;obtain⟨x,hx⟩:∃x,(aP p.d r)[q]?=some x:=⟨_,List.getElem?_eq_getElem (by omega)⟩;obtain⟨hx1,hx2⟩:=w7 hx;have hxe:=hcr.each x (List.mem_of_getElem? hx);intro a I;rw[dM]at hxe;have hs2:=sR hcr q;obtain⟨lA_p,rfl⟩:∃q,lA=some q:=(show kY _ lA lc (bI (aP p.d r)) from kD O.qN hl).au (by omega);refine rO 7 I ?_;clear I a;intro a I;refine cF (fun w'=>Sat _ w' _) (by kernel_rfl) (by kernel_rfl) O.drew ?_;refine rQ 2 I ?_;clear I a
   refine bj 0 (fun w O=>(aa rfl ia)) ?_;refine bj 0 (fun w O=>(iA rfl rfl fx fK)) ?_;refine bj 1 (fun w O=>(an rfl gU (jM O hl))) ?_;refine bj 0 (fun w O=>(ad rfl rfl)) ?_;refine bj 0 (fun w O=>(ix rfl rfl ax eP)) ?_;refine bj 1 (fun w O=>(an rfl dA (fP (kD O.qN hl) (bu hx2)))) ?_;refine bj 0 (fun w O=>(aa rfl ia)) ?_;refine bj 0 (fun w O=>(iA rfl rfl fx fK)) ?_;refine bj 1 (fun w O=>(an rfl gU (jM O hl))) ?_;refine bj 0 (fun w O=>(ix rfl rfl ax eP)) ?_;refine bj 0 (fun w O=>(an rfl dA (fP (kD O.qN hl) (bu hx1)))) ?_;refine bj 0 (fun w O=>(sb rfl rfl)) ?_;refine bj 1 (fun w O=>(ad rfl rfl)) ?_;intro a I;refine wpQuiet_nil ?_;clear O;intro w O;refine rE 4 I ?_;clear I a;refine u1 2 (ad rfl rfl) ?_;intro a I
   replace I:=I.kp [3,4,5,6] rfl;rw[show ((List.range r).map fun r=>c4 (aP p.d r)).sum+c4 ((aP p.d r).take q)+(x.2+1-x.1)=((List.range r).map fun r=>c4 (aP p.d r)).sum+c4 ((aP p.d r).take (q+1)) from by rw[Ds (aP p.d) hx];omega]at I;exact⟨(aP p.d r).length-(q+1),by omega,q+1,I,O,by omega,rfl⟩
  ·intro h20;refine uO 11 ?_;refine u1 2 (ad rfl rfl) ?_;intro a I;replace I:=I.kp [3,4,5] rfl;have eg:(aP p.d r).take q=aP p.d r:=List.take_of_length_le (by omega);rw[eg,show aP p.d r=av (cR p.d r) from rfl,←sr]at I;exact⟨16-(r+1),by omega,r+1,I,O,by omega,rfl⟩
 ·intro h10;obtain rfl:r=16:=by omega
  refine uO 14 ?_;intro a I;replace I:=I.kp [2] rfl;refine rC 1 I ?_;clear I a;refine aY ?_;exact⟨rfl,O.nil⟩
theorem jg (W:World)(p:PL)(hp:p.ok W)(hlc:p.d.ab.length≤10000000000):Calls Tryz.prog 261 #[.agg #[.slice p.va p.d.vec.length p.vc,.slice p.ca p.d.ab.length p.cc]] W fun e w'=>e=.returned (.bool (eO p.d))∧Sat W w' []:=by
 refine bS Tryz.func261 [0] ?_;have O:=Sat.start W;refine uC 2 ?_;refine uB rfl O ?_;clear O;intro b1 w O;refine uO 5 ?_;refine u1 0 (lS (cs:=[_,_]) rfl) ?_;refine uF rfl (zG _ p (hp.sat O) hlc) ?_;rintro e w ⟨rfl,hT2⟩;replace O:Sat _ _ _:=O.ag hT2;clear hT2;refine u1 4 (aU rfl rfl) ?_;refine aY ?_;exact⟨rfl,O.nil⟩
theorem DO (W:World)(A:Option Addr)(c:Nat)(xs:List gC)(hR:GY W A c xs)(hl:xs.length≤10000000000):Calls Tryz.prog 270 #[.slice A (xs).length c] W fun e w'=>∃q:PL,e=.returned (.agg #[.slice q.va q.d.vec.length q.vc,.slice q.ca q.d.ab.length q.cc])∧q.d=mg xs∧Sat W w' [cq 3 q.va q.vc q.d.vec,bp 219 q.ca q.cc q.d.ab]:=by
 refine bS Tryz.func270 [0] ?_;have O:=Sat.start W;refine uC 2 ?_;refine uN cY O ?_;clear O;intro b2 w O;refine uO 4 ?_;refine uN cY O ?_;clear O;intro b3 w O;refine uO 9 ?_;intro a I;refine wp_loop_ghost (fun (mm:Nat) a w=>∃(i:Nat) (Ac:Option Addr) (cc:Nat),Ag a 34 [(0,.slice A (xs).length c),(2,.pointer (some ⟨b2,0,none⟩)),(3,.pointer (some ⟨b3,0,none⟩)),(4,.int .i64 ((i:Nat):Int))]∧Sat W w ([a6 b3 (.cells #[.slice none 0 0,.slice Ac ((xs.take i).map fun d:gC=>(⟨d.rep,d.num,d.num⟩:aL)).length cc] 63),bp 219 Ac cc ((xs.take i).map fun d:gC=>(⟨d.rep,d.num,d.num⟩:aL)),a6 b2 (.cells #[.slice none 0 0,.slice none 0 0] 63)])∧(i≤xs.length)∧mm=xs.length-i) xs.length ?_ ?_
 ·replace I:=I.kp [0,2,3,4] rfl;exact⟨0,none,0,I,((((O.ba 219 3).p 2).p 1).p 2),(by omega),by omega⟩
 intro m a w hI;clear O I;obtain⟨i,Ac,cc,I,O,hi,rfl⟩:=hI;refine rC 5 I ?_;clear I a;refine u1 0 (ak rfl oh) ?_;refine aJ 0 0 (aq rfl rfl) ?_ ?_
 ·intro h8;refine uO 7 ?_;intro a I;refine bf [19,21] O (by kernel_rfl) ?_;replace O:=O.drew;have hcl:((xs.take i).map fun d:gC=>(⟨d.rep,d.num,d.num⟩:aL)).length≤10000000000:=by rw[List.length_map,List.length_take];omega
  refine P1 0 [] I rfl (fun w=>(aa (I.ev rfl) cd)) ?_;clear I a;refine cZ 1 [2,3] rfl (by exact⟨[],O⟩) (fun w hT=>have O:=hT.sat;(ld rfl)) ?_;obtain⟨A_p,rfl⟩:∃q,A=some q:=(hR.sat O).au (by omega);obtain⟨x,hx⟩:∃zz_,xs[i]?=some zz_:=⟨_,List.getElem?_eq_getElem (by omega)⟩
  refine bF 4 [] rfl (fun w=>(ix rfl rfl oh gT)) ?_;refine bF 5 [] rfl (fun w=>(aC rfl bM)) ?_;refine cZ 6 [7,8] rfl (by exact⟨[],O⟩) (fun w hT=>have O:=hT.sat;(an rfl dA (bQ (hR.sat O) (tC hx 0 _ rfl)))) ?_;refine bF 9 [] rfl (fun w=>(ix rfl rfl oh gT)) ?_;refine bF 10 [] rfl (fun w=>(aC rfl bX)) ?_;refine cZ 11 [12,13] rfl (by exact⟨[],O⟩) (fun w hT=>have O:=hT.sat;(an rfl dA (bQ (hR.sat O) (tC hx 1 _ rfl)))) ?_;refine bF 14 [] rfl (fun w=>(ix rfl rfl oh gT)) ?_;refine bF 15 [] rfl (fun w=>(aC rfl bX)) ?_;refine cZ 16 [] rfl (by exact⟨[],O⟩) (fun w hT=>have O:=hT.sat;(an rfl dA (bQ (hR.sat O) (tC hx 1 _ rfl)))) ?_;intro a I;refine P1 17 [] I rfl (fun w=>(ar I rfl iw)) ?_;clear I a;intro a I;refine aE 18 (by kernel_rfl) ?_
  refine xP (vss:=[[_,_,_]]) I rfl rfl rfl dt nT rfl rfl rfl (by simp) rfl O ?_;clear I a O;intro A29 w O;intro a I;refine⟨.inr fun _=>(by exact⟨[_],O⟩),?_⟩;refine aE 19 (by kernel_rfl) ?_;refine eA I rfl rfl rfl rfl dt nT rfl (O.p 2) (O.rd.src dt (by simp[Value.oneCell'])) (by omega) (by omega) ?_;clear I a O;intro A30 c30 w hc30 O;intro a I;refine⟨.inl rfl,?_⟩;refine P1 20 [] I rfl (fun w=>(aa (I.ev rfl) cd)) ?_;clear I a;intro a I;refine aE 21 (by kernel_rfl) ?_;refine HP (cs':=[_,_]) I rfl rfl rfl we C4 rfl (O.p 2) rfl rfl ?_;clear O;intro w O;refine⟨.inl rfl,?_⟩;refine ah (by kernel_rfl) ?_ _;refine rE 4 I ?_;clear I a;refine u1 2 (ad rfl rfl) ?_;intro a I;replace I:=I.kp [0,2,3,4] rfl
  have ec:((xs.take i).map fun d:gC=>(⟨d.rep,d.num,d.num⟩:aL))++[(⟨x.rep,x.num,x.num⟩:aL)]=((xs.take (i+1)).map fun d:gC=>(⟨d.rep,d.num,d.num⟩:aL)):=by rw[aF hx,List.map_append];rfl
  have el:((xs.take i).map fun d:gC=>(⟨d.rep,d.num,d.num⟩:aL)).length+1=((xs.take (i+1)).map fun d:gC=>(⟨d.rep,d.num,d.num⟩:aL)).length:=by rw[←ec,List.length_append];rfl
  have hS2:=fQ (O.p 1) el (cs':=((xs.take (i+1)).map fun d:gC=>(⟨d.rep,d.num,d.num⟩:aL)).flatMap gH) (by rw[←ec,List.flatMap_append];simp[gH]);rw[el]at hS2;exact⟨xs.length-(i+1),by omega,i+1,_,_,I,(((hS2.p 3).p 1).p 2).cw [_,_,_],by omega,rfl⟩
 ·intro h8;obtain rfl:i=xs.length:=by omega
  intro a I;rw[List.take_length]at O;refine rO 10 I ?_;clear I a;refine u1 0 (lS (cs:=[_,_]) rfl) ?_;refine uF rfl (l8 _ ⟨none,0,Ac,cc,⟨[],xs.map fun d:gC=>(⟨d.rep,d.num,d.num⟩:aL)⟩⟩ ⟨(O.ba 3 1).rd,(O.p 1).rd⟩ (by simp;omega)) ?_;rintro e w ⟨q,rfl,hq,hT⟩;replace O:Sat _ _ (_::_::_):=O.ag hT;clear hT;refine uW (vs:=[_,_]) (cs':=[_,_]) rfl rfl aO (O.p 4) ?_;clear O;intro w O;refine uO 3 ?_;intro a I;refine fY I rfl (br (cs:=[_,_]) I rfl cS aO (by exact O.ao (xs:=[_,_]) rfl)) ?_;exact⟨q,rfl,hq,n5 ((O.p 2).p 2)⟩
def Jt (us vs:List Int)(i j:Nat)(x:Int):Prop:=(∀u,us[i]?=some u→x≤u)∧(∀v,vs[j]?=some v→x≤v)∧(us[i]?=some x∨vs[j]?=some x)
def HO (us:List Int)(i i':Nat)(x:Int):Prop:=(us[i]?=some x∧i'=i+1)∨((∀u,us[i]?=some u→x<u)∧i'=i)
theorem x7 {us:List Int}{i:Nat}{u:Int}{p:Prop}(h:us.length≤i)(e:us[i]?=some u):p:=by rw[List.getElem?_eq_none h]at e;cases e
theorem IN {us vs:List Int}{i j:Nat}{u:Int}(hu:us[i]?=some u)(h:vs.length≤j∨∃v,vs[j]?=some v∧u<v):Jt us vs i j u:=by
 refine⟨fun z hz=>by rw[hu]at hz;cases hz;omega,fun z hz=>?_,.inl hu⟩;rcases h with h | ⟨v,hv,h⟩
 ·
  exact x7 h hz
 ·
  rw[hv]at hz;cases hz;omega
theorem IJ {us vs:List Int}{i j:Nat}{v:Int}(hv:vs[j]?=some v)(h:us.length≤i∨∃u,us[i]?=some u∧v≤u):Jt us vs i j v:=by
 refine⟨fun z hz=>?_,fun z hz=>by rw[hv]at hz;cases hz;omega,.inr hv⟩;rcases h with h | ⟨u,hu,h⟩
 ·
  exact x7 h hz
 ·
  rw[hu]at hz;cases hz;omega
theorem GB {us vs:List Int}{i j:Nat}{x u:Int}(ha:x≤u)(hu:us[i]?=some u)(h:¬u=x):HO us i i x:=.inr ⟨fun z hz=>by rw[hu]at hz;cases hz;omega,rfl⟩
theorem ET {us:List Int}{i:Nat}{x:Int}(h:us.length≤i):HO us i i x:=.inr ⟨fun z hz=>x7 h hz,rfl⟩
theorem Db {f:Bool→Bool→Bool}{us vs:List Int}{i j i' j':Nat}{x:Int}(ha:Jt us vs i j x)(hi:HO us i i' x)(hj:HO vs j j' x)(hil:i≤us.length)(hjl:j≤vs.length):i+j<i'+j'∧i'≤us.length∧j'≤vs.length∧
 comb f (us.drop i) (vs.drop j) (cz i) (cz j) (f (cz i) (cz j))=(if f (cz i') (cz j')=f (cz i) (cz j) then [] else [x])++comb f (us.drop i') (vs.drop j') (cz i') (cz j') (f (cz i') (cz j')):=by
 rcases hi with ⟨hu,rfl⟩ | ⟨hu,rfl⟩<;>rcases hj with ⟨hv,rfl⟩ | ⟨hv,rfl⟩
 ·
  have h1:=(List.getElem?_eq_some_iff.1 hu).1;have h2:=(List.getElem?_eq_some_iff.1 hv).1;exact⟨by omega,by omega,by omega,IA hu hv⟩
 ·
  have h1:=(List.getElem?_eq_some_iff.1 hu).1;refine⟨by omega,by omega,by omega,Jy hu ?_⟩
  by_cases h:vs.length≤j'
  ·
   exact .inl h
  ·
   have e:=List.getElem?_eq_getElem (show j'<vs.length by omega);exact .inr ⟨_,e,hv _ e⟩
 ·
  have h2:=(List.getElem?_eq_some_iff.1 hv).1;refine⟨by omega,by omega,by omega,Kc hv ?_⟩
  by_cases h:us.length≤i'
  ·
   exact .inl h
  ·
   have e:=List.getElem?_eq_getElem (show i'<us.length by omega);exact .inr ⟨_,e,hu _ e⟩
 ·
  rcases ha.2.2 with h | h
  ·
   have:=hu _ h;omega
  ·
   have:=hv _ h;omega
theorem wB (W:World)(A:Option Addr)(c:Nat)(us:List Int)(B:Option Addr)(d:Nat)(vs:List Int)(rule:Int)(hX:kY W A c us)(hY:kY W B d vs)(hlx:us.length≤1000000000000)(hly:vs.length≤1000000000000):Calls Tryz.prog 290 #[.slice A (us).length c,.slice B (vs).length d,.int .i64 rule] W fun e w'=>∃A' c',e=.returned (.slice A' (comb (bY rule) us vs false false false).length c')∧Sat W w' [cq 3 A' c' (comb (bY rule) us vs false false false)]:=by
 refine bS Tryz.func290 [0,1,2] ?_;have O:=Sat.start W;refine uC 23 ?_;intro a I;refine wp_loop_ghost (fun (mm:Nat) a w=>∃(i j:Nat) (out:List Int) (Ao:Option Addr) (co:Nat),Ag a 116 [(0,.slice A (us).length c),(1,.slice B (vs).length d),(2,.int .i64 rule),(7,.slice Ao (out).length co),(8,.int .i64 ((i:Nat):Int)),(9,.int .i64 ((j:Nat):Int)),(10,.bool (bY rule (cz i) (cz j)))]∧Sat W w ([cq 3 Ao co out])∧(i≤us.length)∧(j≤vs.length)∧(out.length≤i+j)∧(out++comb (bY rule) (us.drop i) (vs.drop j) (cz i) (cz j) (bY rule (cz i) (cz j))=comb (bY rule) us vs false false false)∧mm=us.length+vs.length-(i+j)) (us.length+vs.length) ?_ ?_
 ·replace I:=I.kp [0,1,2,7,8,9,10] rfl;rw[show Value.bool false=.bool (bY rule (cz 0) (cz 0)) from by rw[show cz 0=false from rfl,vo]]at I;exact⟨0,0,[],none,0,I,(O.ba 3 1),(by omega),(by omega),(by simp),(by rw[show cz 0=false from rfl,vo];rfl),by omega⟩
 intro m a w hI;clear O I;obtain⟨i,j,out,Ao,co,I,O,hi,hj,hol,ho,rfl⟩:=hI;refine dx (fun a w=>Ag a 116 [(0,.slice A (us).length c),(1,.slice B (vs).length d),(2,.int .i64 rule),(7,.slice Ao (out).length co),(8,.int .i64 ((i:Nat):Int)),(9,.int .i64 ((j:Nat):Int)),(10,.bool (bY rule (cz i) (cz j)))]∧Sat W w ([cq 3 Ao co out])∧(i<us.length∨j<vs.length)) ?_ ?_
 ·refine rC 4 I ?_;clear I a;refine u1 0 (ak rfl ax) ?_;refine aJ 0 0 (aq rfl rfl) ?_ ?_
  ·intro h18;refine uO 10 ?_;intro a I;replace I:=I.kp [0,1,2,7,8,9,10] rfl
   first
    | exact⟨I,O,(by omega)⟩
  ·intro h18;refine uO 3 ?_;refine u1 0 (ak rfl ax) ?_;refine aJ 0 0 (aq rfl rfl) ?_ ?_
   ·intro h23;refine uO 5 ?_;intro a I;replace I:=I.kp [0,1,2,7,8,9,10] rfl
    first
     | exact⟨I,O,(by omega)⟩
   ·intro h23;refine uO 9 ?_;intro a I;replace I:=I.kp [7] rfl;refine rC 7 I ?_;clear I a;refine aY ?_;rw[HF (by omega) (by omega),List.append_nil]at ho;rw[←ho];exact⟨_,_,rfl,gy O⟩
 ·intro a w hI;clear O I;obtain⟨I,O,hlt⟩:=hI;refine rC 6 I ?_;clear I a;intro a I;refine dx (fun a w=>∃(at_:Int),Ag a 116 [(0,.slice A (us).length c),(1,.slice B (vs).length d),(2,.int .i64 rule),(7,.slice Ao (out).length co),(8,.int .i64 ((i:Nat):Int)),(9,.int .i64 ((j:Nat):Int)),(10,.bool (bY rule (cz i) (cz j))),(11,.int .i64 at_)]∧Sat W w ([cq 3 Ao co out])∧(Jt us vs i j at_)) ?_ ?_
  ·refine rC 1 I ?_;clear I a;intro a I;refine cF (fun w'=>Sat _ w' _) (by kernel_rfl) (by kernel_rfl) O.drew ?_;refine rQ 2 I ?_;clear I a;refine bj 0 (fun w O=>(ak rfl ax)) ?_;intro a I;refine K.sE I rfl rfl rfl (fun w O=>(aU (I.ev rfl) (I.ev rfl))) ?_ ?_
   ·clear I a;intro h28;refine uQ 17 ?_;intro a I;refine wpQuiet_nil ?_;clear O;intro w O;refine rE 5 I ?_;clear I a;obtain⟨A_p,rfl⟩:∃q,A=some q:=(hX.sat O).au (by omega);obtain⟨u,hu⟩:∃zz_,us[i]?=some zz_:=⟨_,List.getElem?_eq_getElem (by omega)⟩;refine u1 0 (ix rfl rfl ax eP) ?_;refine u1 2 (an rfl dA (fP (hX.sat O) (bu hu))) ?_;intro a I;replace I:=I.kp [0,1,2,7,8,9,10,11] rfl;exact⟨u,I,O,IN hu (.inl (by omega))⟩
   ·clear I a;intro h28;refine uQ 3 ?_;refine bj 0 (fun w O=>(ak rfl ax)) ?_;intro a I;refine K.oU I (aT I rfl rfl rfl) rfl rfl (fun w O=>(aq (I.ev rfl) (I.ev rfl))) ?_ ?_
    ·clear I a;intro h33;refine uQ 3 ?_;obtain⟨A_p,rfl⟩:∃q,A=some q:=(hX.sat O).au (by omega);obtain⟨u,hu⟩:∃zz_,us[i]?=some zz_:=⟨_,List.getElem?_eq_getElem (by omega)⟩;refine bj 0 (fun w O=>(ix rfl rfl ax eP)) ?_;refine bj 2 (fun w O=>(an rfl dA (fP (hX.sat O) (bu hu)))) ?_;obtain⟨B_p,rfl⟩:∃q,B=some q:=(hY.sat O).au (by omega);obtain⟨v,hv⟩:∃zz_,vs[j]?=some zz_:=⟨_,List.getElem?_eq_getElem (by omega)⟩;refine bj 0 (fun w O=>(ix rfl rfl ax eP)) ?_;refine bj 0 (fun w O=>(an rfl dA (fP (hY.sat O) (bu hv)))) ?_;intro a I;refine K.oU I (aT I rfl rfl rfl) rfl rfl (fun w O=>(aq (I.ev rfl) (I.ev rfl))) ?_ ?_
     ·clear I a;intro h43;refine uQ 2 ?_;intro a I;refine wpQuiet_nil ?_;clear O;intro w O;refine rE 5 I ?_;clear I a;refine u1 0 (ix rfl rfl ax eP) ?_;refine u1 2 (an rfl dA (fP (hX.sat O) (bu hu))) ?_;intro a I;replace I:=I.kp [0,1,2,7,8,9,10,11] rfl;exact⟨u,I,O,IN hu (.inr ⟨v,hv,by omega⟩)⟩
     ·clear I a;intro h43;refine uQ 2 ?_;intro a I;refine wpQuiet_nil ?_;clear O;intro w O;refine rE 5 I ?_;clear I a;refine u1 0 (ix rfl rfl ax eP) ?_;refine u1 2 (an rfl dA (fP (hY.sat O) (bu hv))) ?_;intro a I;replace I:=I.kp [0,1,2,7,8,9,10,11] rfl;exact⟨v,I,O,IJ hv (.inr ⟨u,hu,by omega⟩)⟩
    ·clear I a;intro h33;refine uQ 12 ?_;intro a I;refine wpQuiet_nil ?_;clear O;intro w O;refine rE 5 I ?_;clear I a;obtain⟨B_p,rfl⟩:∃q,B=some q:=(hY.sat O).au (by omega);obtain⟨v,hv⟩:∃zz_,vs[j]?=some zz_:=⟨_,List.getElem?_eq_getElem (by omega)⟩;refine u1 0 (ix rfl rfl ax eP) ?_;refine u1 2 (an rfl dA (fP (hY.sat O) (bu hv))) ?_;intro a I;replace I:=I.kp [0,1,2,7,8,9,10,11] rfl;exact⟨v,I,O,IJ hv (.inl (by omega))⟩
  ·intro a w hI;clear O I;obtain⟨at_,I,O,hat⟩:=hI;refine dx (fun a w=>∃(i':Nat),Ag a 116 [(0,.slice A (us).length c),(1,.slice B (vs).length d),(2,.int .i64 rule),(7,.slice Ao (out).length co),(8,.int .i64 ((i':Nat):Int)),(9,.int .i64 ((j:Nat):Int)),(10,.bool (bY rule (cz i) (cz j))),(11,.int .i64 at_)]∧Sat W w ([cq 3 Ao co out])∧(HO us i i' at_)) ?_ ?_
   ·refine rC 4 I ?_;clear I a;refine u1 0 (ak rfl ax) ?_;refine aJ 0 0 (aq rfl rfl) ?_ ?_
    ·intro h57;refine uO 3 ?_;obtain⟨A_p,rfl⟩:∃q,A=some q:=(hX.sat O).au (by omega);obtain⟨u,hu⟩:∃zz_,us[i]?=some zz_:=⟨_,List.getElem?_eq_getElem (by omega)⟩;refine u1 0 (ix rfl rfl ax eP) ?_;refine u1 1 (an rfl dA (fP (hX.sat O) (bu hu))) ?_;refine aJ 0 0 (aU rfl rfl) ?_ ?_
     ·intro h64;refine uO 6 ?_;refine u1 2 (ad rfl rfl) ?_;intro a I;replace I:=I.kp [0,1,2,7,8,9,10,11] rfl;exact⟨i+1,I,O,.inl ⟨by rw[←h64];exact hu,rfl⟩⟩
     ·intro h64;refine uO 5 ?_;intro a I;replace I:=I.kp [0,1,2,7,8,9,10,11] rfl;exact⟨i,I,O,GB (vs:=vs) (j:=j) (hat.1 u hu) hu h64⟩
    ·intro h57;refine uO 12 ?_;intro a I;replace I:=I.kp [0,1,2,7,8,9,10,11] rfl;exact⟨i,I,O,ET (by omega)⟩
   ·intro a w hI;clear O I;obtain⟨i',I,O,hmi⟩:=hI;refine dx (fun a w=>∃(j':Nat),Ag a 116 [(0,.slice A (us).length c),(1,.slice B (vs).length d),(2,.int .i64 rule),(7,.slice Ao (out).length co),(8,.int .i64 ((i':Nat):Int)),(9,.int .i64 ((j':Nat):Int)),(10,.bool (bY rule (cz i) (cz j))),(11,.int .i64 at_)]∧Sat W w ([cq 3 Ao co out])∧(HO vs j j' at_)) ?_ ?_
    ·refine rC 4 I ?_;clear I a;refine u1 0 (ak rfl ax) ?_;refine aJ 0 0 (aq rfl rfl) ?_ ?_
     ·intro h71;refine uO 3 ?_;obtain⟨B_p,rfl⟩:∃q,B=some q:=(hY.sat O).au (by omega);obtain⟨v,hv⟩:∃zz_,vs[j]?=some zz_:=⟨_,List.getElem?_eq_getElem (by omega)⟩;refine u1 0 (ix rfl rfl ax eP) ?_;refine u1 1 (an rfl dA (fP (hY.sat O) (bu hv))) ?_;refine aJ 0 0 (aU rfl rfl) ?_ ?_
      ·intro h78;refine uO 6 ?_;refine u1 2 (ad rfl rfl) ?_;intro a I;replace I:=I.kp [0,1,2,7,8,9,10,11] rfl;exact⟨j+1,I,O,.inl ⟨by rw[←h78];exact hv,rfl⟩⟩
      ·intro h78;refine uO 5 ?_;intro a I;replace I:=I.kp [0,1,2,7,8,9,10,11] rfl;exact⟨j,I,O,GB (vs:=us) (j:=i) (hat.2.1 v hv) hv h78⟩
     ·intro h71;refine uO 12 ?_;intro a I;replace I:=I.kp [0,1,2,7,8,9,10,11] rfl;exact⟨j,I,O,ET (by omega)⟩
    ·intro a w hI;clear O I;obtain⟨j',I,O,hmj⟩:=hI;obtain⟨hm,hi2,hj2,hrel⟩:=Db (f:=bY rule) hat hmi hmj hi hj;refine yR (fun a w=>Ag a 116 [(0,.slice A (us).length c),(1,.slice B (vs).length d),(2,.int .i64 rule),(7,.slice Ao (out).length co),(8,.int .i64 ((i':Nat):Int)),(9,.int .i64 ((j':Nat):Int)),(10,.bool (bY rule (cz i) (cz j))),(11,.int .i64 at_),(14,.bool (bY rule (cz i') (cz j')))]∧Sat W w ([cq 3 Ao co out])) ?_ ?_
     ·refine rC 2 I ?_;clear I a;refine u1 0 (gj rfl rfl (by omega) (by omega)) ?_;refine aJ 0 0 (aU rfl rfl) ?_ ?_
      ·intro h84;refine uO 1 ?_;refine u1 0 (gj rfl rfl (by omega) (by omega)) ?_;refine aJ 0 0 (aU rfl rfl) ?_ ?_
       ·intro h87;refine uO 3 ?_;refine uC 2 ?_;refine aJ 0 0 (aU rfl rfl) ?_ ?_
        ·intro h89;refine uO 19 ?_;intro a I;replace I:=I.kp [0,1,2,7,8,9,10,11,14] rfl;have ho1:cz i'=true:=by unfold cz;rw[decide_eq_true (by omega)]
         have ho2:cz j'=true:=by unfold cz;rw[decide_eq_true (by omega)]
         have hnow:bY rule (cz i') (cz j')=true:=by rw[ho1,ho2];unfold bY;simp<;>omega
         rw[show Value.bool true=.bool (bY rule (cz i') (cz j')) from by rw[hnow]<;>rfl]at I;exact⟨I,O⟩
        ·intro h89;refine uO 8 ?_;refine aJ 0 0 (aU rfl rfl) ?_ ?_
         ·intro h98;refine uO 5 ?_;refine u1 4 (aB rfl) ?_;intro a I;replace I:=I.kp [0,1,2,7,8,9,10,11,14] rfl;have ho1:cz i'=true:=by unfold cz;rw[decide_eq_true (by omega)]
          have ho2:cz j'=true:=by unfold cz;rw[decide_eq_true (by omega)]
          have hnow:bY rule (cz i') (cz j')=false:=by rw[ho1,ho2];unfold bY;simp<;>omega
          rw[show Value.bool (!true)=.bool (bY rule (cz i') (cz j')) from by rw[hnow]<;>rfl]at I;exact⟨I,O⟩
         ·intro h98;refine uO 10 ?_;intro a I;replace I:=I.kp [0,1,2,7,8,9,10,11,14] rfl;have ho1:cz i'=true:=by unfold cz;rw[decide_eq_true (by omega)]
          have ho2:cz j'=true:=by unfold cz;rw[decide_eq_true (by omega)]
          have hnow:bY rule (cz i') (cz j')=false:=by rw[ho1,ho2];unfold bY;simp<;>omega
          rw[show Value.bool false=.bool (bY rule (cz i') (cz j')) from by rw[hnow]<;>rfl]at I;exact⟨I,O⟩
       ·intro h87;refine uO 3 ?_;refine uC 2 ?_;refine aJ 0 0 (aU rfl rfl) ?_ ?_
        ·intro h89;refine uO 8 ?_;refine aJ 0 0 (aU rfl rfl) ?_ ?_
         ·intro h98;intro a I;exfalso;omega
         ·intro h98;refine uO 10 ?_;intro a I;replace I:=I.kp [0,1,2,7,8,9,10,11,14] rfl;have ho1:cz i'=true:=by unfold cz;rw[decide_eq_true (by omega)]
          have ho2:cz j'=false:=by unfold cz;rw[decide_eq_false (by omega)]
          have hnow:bY rule (cz i') (cz j')=false:=by rw[ho1,ho2];unfold bY;simp<;>omega
          rw[show Value.bool false=.bool (bY rule (cz i') (cz j')) from by rw[hnow]<;>rfl]at I;exact⟨I,O⟩
        ·intro h89;refine uO 8 ?_;refine aJ 0 0 (aU rfl rfl) ?_ ?_
         ·intro h98;refine uO 5 ?_;refine u1 4 (aB rfl) ?_;intro a I;replace I:=I.kp [0,1,2,7,8,9,10,11,14] rfl;have ho1:cz i'=true:=by unfold cz;rw[decide_eq_true (by omega)]
          have ho2:cz j'=false:=by unfold cz;rw[decide_eq_false (by omega)]
          have hnow:bY rule (cz i') (cz j')=true:=by rw[ho1,ho2];unfold bY;simp<;>omega
          rw[show Value.bool (!false)=.bool (bY rule (cz i') (cz j')) from by rw[hnow]<;>rfl]at I;exact⟨I,O⟩
         ·intro h98;refine uO 10 ?_;intro a I;replace I:=I.kp [0,1,2,7,8,9,10,11,14] rfl;have ho1:cz i'=true:=by unfold cz;rw[decide_eq_true (by omega)]
          have ho2:cz j'=false:=by unfold cz;rw[decide_eq_false (by omega)]
          have hnow:bY rule (cz i') (cz j')=false:=by rw[ho1,ho2];unfold bY;simp<;>omega
          rw[show Value.bool false=.bool (bY rule (cz i') (cz j')) from by rw[hnow]<;>rfl]at I;exact⟨I,O⟩
      ·intro h84;refine uO 1 ?_;refine u1 0 (gj rfl rfl (by omega) (by omega)) ?_;refine aJ 0 0 (aU rfl rfl) ?_ ?_
       ·intro h87;refine uO 3 ?_;refine uC 2 ?_;refine aJ 0 0 (aU rfl rfl) ?_ ?_
        ·intro h89;refine uO 8 ?_;refine aJ 0 0 (aU rfl rfl) ?_ ?_
         ·intro h98;intro a I;exfalso;omega
         ·intro h98;refine uO 10 ?_;intro a I;replace I:=I.kp [0,1,2,7,8,9,10,11,14] rfl;have ho1:cz i'=false:=by unfold cz;rw[decide_eq_false (by omega)]
          have ho2:cz j'=true:=by unfold cz;rw[decide_eq_true (by omega)]
          have hnow:bY rule (cz i') (cz j')=false:=by rw[ho1,ho2];unfold bY;simp<;>omega
          rw[show Value.bool false=.bool (bY rule (cz i') (cz j')) from by rw[hnow]<;>rfl]at I;exact⟨I,O⟩
        ·intro h89;refine uO 8 ?_;refine aJ 0 0 (aU rfl rfl) ?_ ?_
         ·intro h98;refine uO 10 ?_;intro a I;replace I:=I.kp [0,1,2,7,8,9,10,11,14] rfl;have ho1:cz i'=false:=by unfold cz;rw[decide_eq_false (by omega)]
          have ho2:cz j'=true:=by unfold cz;rw[decide_eq_true (by omega)]
          have hnow:bY rule (cz i') (cz j')=false:=by rw[ho1,ho2];unfold bY;simp<;>omega
          rw[show Value.bool false=.bool (bY rule (cz i') (cz j')) from by rw[hnow]<;>rfl]at I;exact⟨I,O⟩
         ·intro h98;refine uO 10 ?_;intro a I;replace I:=I.kp [0,1,2,7,8,9,10,11,14] rfl;have ho1:cz i'=false:=by unfold cz;rw[decide_eq_false (by omega)]
          have ho2:cz j'=true:=by unfold cz;rw[decide_eq_true (by omega)]
          have hnow:bY rule (cz i') (cz j')=false:=by rw[ho1,ho2];unfold bY;simp<;>omega
          rw[show Value.bool false=.bool (bY rule (cz i') (cz j')) from by rw[hnow]<;>rfl]at I;exact⟨I,O⟩
       ·intro h87;refine uO 3 ?_;refine uC 2 ?_;refine aJ 0 0 (aU rfl rfl) ?_ ?_
        ·intro h89;refine uO 8 ?_;refine aJ 0 0 (aU rfl rfl) ?_ ?_
         ·intro h98;intro a I;exfalso;omega
         ·intro h98;refine uO 10 ?_;intro a I;replace I:=I.kp [0,1,2,7,8,9,10,11,14] rfl;have ho1:cz i'=false:=by unfold cz;rw[decide_eq_false (by omega)]
          have ho2:cz j'=false:=by unfold cz;rw[decide_eq_false (by omega)]
          have hnow:bY rule (cz i') (cz j')=false:=by rw[ho1,ho2];unfold bY;simp<;>omega
          rw[show Value.bool false=.bool (bY rule (cz i') (cz j')) from by rw[hnow]<;>rfl]at I;exact⟨I,O⟩
        ·intro h89;refine uO 8 ?_;refine aJ 0 0 (aU rfl rfl) ?_ ?_
         ·intro h98;refine uO 10 ?_;intro a I;replace I:=I.kp [0,1,2,7,8,9,10,11,14] rfl;have ho1:cz i'=false:=by unfold cz;rw[decide_eq_false (by omega)]
          have ho2:cz j'=false:=by unfold cz;rw[decide_eq_false (by omega)]
          have hnow:bY rule (cz i') (cz j')=false:=by rw[ho1,ho2];unfold bY;simp<;>omega
          rw[show Value.bool false=.bool (bY rule (cz i') (cz j')) from by rw[hnow]<;>rfl]at I;exact⟨I,O⟩
         ·intro h98;refine uO 10 ?_;intro a I;replace I:=I.kp [0,1,2,7,8,9,10,11,14] rfl;have ho1:cz i'=false:=by unfold cz;rw[decide_eq_false (by omega)]
          have ho2:cz j'=false:=by unfold cz;rw[decide_eq_false (by omega)]
          have hnow:bY rule (cz i') (cz j')=false:=by rw[ho1,ho2];unfold bY;simp<;>omega
          rw[show Value.bool false=.bool (bY rule (cz i') (cz j')) from by rw[hnow]<;>rfl]at I;exact⟨I,O⟩
     ·intro a w hI;clear O I;obtain⟨I,O⟩:=hI;refine rC 4 I ?_;clear I a;refine j4 0 0 (Jb rfl rfl Ku) ?_ ?_
      ·intro h109;intro a I;simp only[bne_iff_ne,ne_eq]at h109;refine rO 7 I ?_;clear I a;intro a I;refine nZ I rfl rfl ax iU rfl rfl rfl (by simp[Value.oneCell']) O ?_;clear I a O;intro A112 w O;intro a I;refine dq I rfl rfl rfl ax iU rfl (O.p 1) (O.rd.src ax (by simp[Value.oneCell'])) (by omega) (by omega) ?_;clear I a O;intro A113 c113 w hc113 O;refine uO 8 ?_;intro a I;replace I:=I.kp [0,1,2,7,8,9,10] rfl;rw[if_neg (by intro hc;rw[←hc]at h109;simp at h109)]at hrel;rw[hrel,←List.append_assoc]at ho;have el:out.length+1=(out++[at_]).length:=by simp
       rw[el]at I;exact⟨us.length+vs.length-(i'+j'),by omega,i',j',out++[at_],_,_,I,gy (fQ O el (by simp)),by omega,by omega,by simp;omega,ho,rfl⟩
      ·intro h109;refine uO 5 ?_;intro a I;replace I:=I.kp [0,1,2,7,8,9,10] rfl;rw[if_pos (by simpa using h109),List.nil_append]at hrel;rw[hrel]at ho;rw[←show bY rule (cz i') (cz j')=bY rule (cz i) (cz j) from by simpa using h109]at I;exact⟨us.length+vs.length-(i'+j'),by omega,i',j',out,_,_,I,O,by omega,by omega,by omega,ho,rfl⟩
def Eg (F:Bool→Bool→Bool)(f g:Nat→List bA)(r k:Nat):List Int:=if k<r then comb F (bI (f k)) (bI (g k)) false false false else []
theorem EM (F:Bool→Bool→Bool)(f g:Nat→List bA)(r:Nat):Eg F f g (r+1) r=comb F (bI (f r)) (bI (g r)) false false false:=if_pos (Nat.lt_succ_self r)
theorem EZ {F:Bool→Bool→Bool}{f g:Nat→List bA}{r k:Nat}(h:k≠r):Eg F f g (r+1) k=Eg F f g r k:=by
 unfold Eg
 by_cases h1:k<r
 ·
  rw[if_pos h1,if_pos (by omega)]
 ·
  rw[if_neg h1,if_neg (by omega)]
theorem sG (a b:aI):(ke a b).ab.length≤16 * (a.ab.length+b.ab.length+3):=
 rF (fun r _=>nE a b r) 16 (Nat.le_refl _)
theorem jV (x:Int):cx [x]=x:=by
 unfold cx
 split
 ·
  rename_i h;rw[h];rfl
 ·
  rfl
theorem wL {x y:List aL}{k:Nat}(h1:k≤x.length)(h2:k≤y.length)(h:x.length≤k∨y.length≤k):dn (x.drop k) (y.drop k)=gf (x.length:Int) (y.length:Int):=by
 rcases Nat.lt_or_ge k x.length with hx | hx
 ·
  have hy:y.length≤k:=by omega
  rw[List.drop_of_length_le hy,List.drop_eq_getElem_cons hx,dn];unfold gf;rw[if_neg (by omega),if_pos (by omega)]
 ·
  rw[List.drop_of_length_le hx];rcases Nat.lt_or_ge k y.length with hy | hy
  ·
   rw[List.drop_eq_getElem_cons hy,dn];unfold gf;rw[if_pos (by omega)]
  ·
   rw[List.drop_of_length_le hy,dn];unfold gf;rw[if_neg (by omega),if_neg (by omega)]
theorem uT (W:World)(ls ms:List (Loc Int))(f g:Nat→List bA)(rule:Int)(hT1:dL ls (fun r=>bI (f r)))(hT2:dL ms (fun r=>bI (g r)))(hR1:∀(r:Nat) (l:Loc Int),ls[r]?=some l→kY W l.a l.c l.xs)(hR2:∀(r:Nat) (l:Loc Int),ms[r]?=some l→kY W l.a l.c l.xs)(hb1:∀r,r<16→(f r).length≤100000000000)(hb2:∀r,r<16→(g r).length≤100000000000):Calls Tryz.prog 282 #[.agg (ls.map Loc.v).toArray,.agg (ms.map Loc.v).toArray,.int .i64 rule] W fun e w'=>∃l3:List (Loc Int),e=.returned (.agg (l3.map Loc.v).toArray)∧dL l3 (fun r=>comb (bY rule) (bI (f r)) (bI (g r)) false false false)∧Sat W w' [bB (l3.map (Loc.fh 3))]:=by
 refine bS Tryz.func282 [0,1,2] ?_;have O:=Sat.start W;refine uC 2 ?_;refine uB rfl O ?_;clear O;intro b3 w O;refine uB rfl O ?_;clear O;intro b4 w O;refine uN w8 O ?_;clear O;intro b6 w O;refine uO 4 ?_;refine uN w8 O ?_;clear O;intro b7 w O;refine uO 9 ?_;intro a I;refine wp_loop_ghost (fun (mm:Nat) a w=>∃(r:Nat) (l3:List (Loc Int)),Ag a 27 [(2,.int .i64 rule),(3,.pointer (some ⟨b3,0,none⟩)),(4,.pointer (some ⟨b4,0,none⟩)),(6,.pointer (some ⟨b6,0,none⟩)),(7,.pointer (some ⟨b7,0,none⟩)),(8,.int .i64 ((r:Nat):Int))]∧Sat W w ([dE 377 b7 l3,bB (l3.map (Loc.fh 3)),a6 b6 (.cells ((List.replicate 16 (⟨none,0,[]⟩:Loc Int)).map Loc.v).toArray 377 (0,0)),dE 377 b4 ms,dE 377 b3 ls])∧(r≤16)∧(dL l3 (Eg (bY rule) f g r))∧mm=16-r) 16 ?_ ?_
 ·replace I:=I.kp [2,3,4,6,7,8] rfl;have hS0:=lq (Loc.fh 3) O (fun L' s=>s.ba 3 1) 16;have hS1:Sat W w [dE 377 b7 (List.replicate 16 (⟨none,0,[]⟩:Loc Int)),bB ((List.replicate 16 (⟨none,0,[]⟩:Loc Int)).map (Loc.fh 3)),a6 b6 (.cells ((List.replicate 16 (⟨none,0,[]⟩:Loc Int)).map Loc.v).toArray 377 (0,0)),dE 377 b4 ms,dE 377 b3 ls]:=hS0.p 1;exact⟨0,_,I,hS1,(by omega),(by exact kx.congr fun r hr=>by simp[Eg]),by omega⟩
 intro m a w hI;clear O I;obtain⟨r,l3,I,O,hr,hT3,rfl⟩:=hI;refine rC 4 I ?_;clear I a;refine aJ 0 0 (aq rfl rfl) ?_ ?_
 ·intro h10;obtain⟨lA,lc,hl1⟩:=hT1.get (show r<16 by omega);obtain⟨mA,mc,hl2⟩:=hT2.get (show r<16 by omega);obtain⟨nA,nc,hl3⟩:=hT3.get (show r<16 by omega);have hq1:kY W lA lc (bI (f r)):=hR1 r _ hl1;have hq2:kY W mA mc (bI (g r)):=hR2 r _ hl2;have hf1:=jY (f r);have hf2:=jY (g r);have hbb1:=hb1 r (by omega);have hbb2:=hb2 r (by omega);refine uO 7 ?_;intro a I;refine bf [10,13] O (by kernel_rfl) ?_;replace O:=O.drew;refine rX [0,1] I ?_;clear I a
  refine bF 2 [] rfl (fun w=>(aa rfl ia)) ?_;refine bF 3 [] rfl (fun w=>(iA rfl rfl fx fK)) ?_;refine cZ 4 [5] rfl (by exact⟨[],O⟩) (fun w hT=>have O:=hT.sat;(an rfl gU (jM (O.p 4) hl1))) ?_;refine bF 6 [] rfl (fun w=>(aa rfl ia)) ?_;refine bF 7 [] rfl (fun w=>(iA rfl rfl fx fK)) ?_;refine cZ 8 [9] rfl (by exact⟨[],O⟩) (fun w hT=>have O:=hT.sat;(an rfl gU (jM (O.p 3) hl2))) ?_;refine bF 11 [] rfl (fun w=>(aa rfl ia)) ?_;intro a I;refine aE 10 (by kernel_rfl) ?_;refine eF I rfl rfl Ia rfl (wB _ lA lc (bI (f r)) mA mc (bI (g r)) rule (hq1.sat O) (hq2.sat O) (by omega) (by omega)) ?_;clear I a;rintro e w ⟨A23,c23,rfl,hT⟩;replace O:=O.aM hT;clear hT;refine⟨_,rfl,?_⟩;intro a I;refine⟨.inl rfl,?_⟩
  refine P1 12 [] I rfl (fun w=>(fG (I.ev rfl) (I.ev rfl) fx fK (by omega) (by omega))) ?_;clear I a;intro a I;refine aE 13 (by kernel_rfl) ?_;refine Hc (i:=r) ⟨A23,c23,comb (bY rule) (bI (f r)) (bI (g r)) false false false⟩ I rfl rfl (by simp) rfl rfl gU fK (O.p 1) hl3 ?_;clear O;intro w O;refine⟨.inl rfl,?_⟩;refine ah (by kernel_rfl) ?_ _;refine rE 4 I ?_;clear I a;refine u1 2 (ad rfl rfl) ?_;intro a I;replace I:=I.kp [2,3,4,6,7,8] rfl;have hS2:=((O.p 2).dU (i7 hl3)).drop;have hS3:=jQ (f:=Loc.fh 3) hl3 (l':=⟨A23,c23,comb (bY rule) (bI (f r)) (bI (g r)) false false false⟩) (((hS2.p 1).p 1).p 2);refine⟨16-(r+1),by omega,r+1,_,I,hS3.p 1,by omega,?_,rfl⟩;exact hT3.set (EM _ _ _ _).symm fun k hk hne=>EZ hne
 ·intro h10;obtain rfl:r=16:=by omega
  refine uO 10 ?_;refine u1 0 (aG (cs:=l3.map Loc.v) rfl zR (by rw[List.length_map,hT3.1];exact qI) (lg O)) ?_;intro a I;refine Gp (ls:=l3) (cs:=((List.replicate 16 (⟨none,0,[]⟩:Loc Int)).map Loc.v)) I rfl rfl qI hT3.1 (by simp) (O.p 2) ?_;clear O;intro w O;refine rO 3 I ?_;clear I a;intro a I;refine fY I rfl (br (cs:=l3.map Loc.v) I rfl zR (by rw[List.length_map,hT3.1];exact qI) (lg O)) ?_;exact⟨l3,rfl,hT3.congr fun r hr=>if_pos hr,gy (O.p 2)⟩
theorem xR (W:World)(p q:PL)(hp:p.ok W)(hq:q.ok W)(hlp:p.d.ab.length≤10000000000)(hlq:q.d.ab.length≤10000000000):Calls Tryz.prog 269 #[.agg #[.slice p.va p.d.vec.length p.vc,.slice p.ca p.d.ab.length p.cc],.agg #[.slice q.va q.d.vec.length q.vc,.slice q.ca q.d.ab.length q.cc]] W fun e w'=>∃x:PL,e=.returned (.agg #[.slice x.va x.d.vec.length x.vc,.slice x.ca x.d.ab.length x.cc])∧x.d=ke p.d q.d∧Sat W w' [cq 3 x.va x.vc x.d.vec,bp 219 x.ca x.cc x.d.ab]:=by
 refine bS Tryz.func269 [0,1] ?_;have O:=Sat.start W;refine uC 2 ?_;refine uB rfl O ?_;clear O;intro b2 w O;refine uB rfl O ?_;clear O;intro b3 w O;refine uN cY O ?_;clear O;intro b4 w O;refine uO 3 ?_;intro a I;refine bf [3,4,5,6] O (by kernel_rfl) ?_;replace O:=O.drew;refine X1 0 [] I rfl (by exact⟨[],O⟩) (fun w hT=>have O:=hT.sat;(aG (cs:=[_,_]) (I.ev rfl) cS aO (by exact (O.p 2).ao (xs:=[_,_]) rfl))) ?_;clear I a;refine cZ 2 [] rfl (by exact⟨[],O⟩) (fun w hT=>have O:=hT.sat;(lS (cs:=[_,_]) rfl)) ?_;intro a I;refine aE 1 (by kernel_rfl) ?_;refine eF I rfl rfl G2 rfl (pn _ p (hp.sat O) hlp) ?_;clear I a;rintro e w ⟨ls,rfl,hT1,hT⟩;replace O:=O.aM hT;clear hT;refine⟨_,rfl,?_⟩;intro a I;refine⟨.inr fun _=>(by exact⟨[_],O⟩),?_⟩;refine aE 3 (by kernel_rfl) ?_
 refine eF I rfl rfl G2 rfl (pn _ q (hq.sat O) hlq) ?_;clear I a;rintro e w ⟨ms,rfl,hT2,hT⟩;replace O:=O.aM hT;clear hT;refine⟨_,rfl,?_⟩;intro a I;refine⟨.inl rfl,?_⟩;refine aE 4 (by kernel_rfl) ?_;refine eF I rfl rfl Jk rfl (uT _ ls ms (aP p.d) (aP q.d) 2 hT1 hT2 (fun r l h=>kD (O.p 1) h) (fun r l h=>kD O h) (fun r hr=>by have:=cK (cR p.d r);have:=eC p.d r;unfold aP;omega) (fun r hr=>by have:=cK (cR q.d r);have:=eC q.d r;unfold aP;omega)) ?_;clear I a;rintro e w ⟨ns,rfl,hT0,hT⟩;replace O:=O.aM hT;clear hT;have hT3:dL ns (fun r=>bI (eB (aP p.d r) (aP q.d r))):=hT0.congr fun r hr=>(by rw[Bt];exact BP (bG p.d r) (bG q.d r))
 refine⟨_,rfl,?_⟩;intro a I;refine⟨.inl rfl,?_⟩;refine aE 5 (by kernel_rfl) ?_;refine eF I rfl rfl Ir rfl (tN _ ns (fun r=>eB (aP p.d r) (aP q.d r)) hT3 (fun r=>kN (bG p.d r) (bG q.d r)) (fun r l h=>kD O h) (fun r hr=>by have:=nE p.d q.d r;omega)) ?_;clear I a;rintro e w ⟨x,rfl,hx,hT⟩;replace O:Sat _ _ (_::_::_):=O.ag hT;clear hT;refine⟨_,rfl,?_⟩;intro a I;refine⟨.inl rfl,?_⟩;refine aE 6 (by kernel_rfl) ?_;refine cH (vs:=[_,_]) (cs':=[_,_]) I rfl rfl rfl aO (by simp[Value.oneCell']) (O.p 5) rfl rfl ?_;clear O;intro w O;refine⟨.inl rfl,?_⟩;refine ah (by kernel_rfl) ?_ _;refine rE 2 I ?_;clear I a;intro a I;refine fY I rfl (br (cs:=[_,_]) I rfl cS aO (by exact O.ao (xs:=[_,_]) rfl)) ?_;exact⟨x,rfl,hx,n5 ((O.p 2).p 2)⟩
theorem pH (W:World)(p q:PL)(hp:p.ok W)(hq:q.ok W)(hlp:p.d.ab.length≤300000000)(hlq:q.d.ab.length≤300000000):Calls Tryz.prog 236 #[.agg #[.slice p.va p.d.vec.length p.vc,.slice p.ca p.d.ab.length p.cc],.agg #[.slice q.va q.d.vec.length q.vc,.slice q.ca q.d.ab.length q.cc]] W fun e w'=>e=.returned (.bool (ck p.d q.d))∧Sat W w' []:=by
 refine bS Tryz.func236 [0,1] ?_;have O:=Sat.start W;refine uC 2 ?_;refine uB rfl O ?_;clear O;intro b2 w O;refine uB rfl O ?_;clear O;intro b3 w O;refine uO 5 ?_;refine u1 0 (lS (cs:=[_,_]) rfl) ?_;refine u1 0 (lS (cs:=[_,_]) rfl) ?_;refine uF rfl (xR _ p q (hp.sat O) (hq.sat O) (by omega) (by omega)) ?_;rintro e w ⟨x,rfl,hx,hT⟩;replace O:Sat _ _ (_::_::_):=O.ag hT;clear hT;refine uF rfl (jg _ x ⟨O.rd,(O.p 1).rd⟩ (by rw[hx];have:=sG p.d q.d;omega)) ?_;rintro e w ⟨rfl,hT2⟩;replace O:Sat _ _ _:=O.ag hT2;clear hT2;refine uO 4 ?_;refine aY ?_;refine⟨?_,O.nil⟩;rw[hx,xU]
theorem lu (W:World)(p q:PL)(hp:p.ok W)(hq:q.ok W)(hlp:p.d.ab.length≤10000000000)(hlq:q.d.ab.length≤10000000000):Calls Tryz.prog 262 #[.agg #[.slice p.va p.d.vec.length p.vc,.slice p.ca p.d.ab.length p.cc],.agg #[.slice q.va q.d.vec.length q.vc,.slice q.ca q.d.ab.length q.cc]] W fun e w'=>e=.returned (.int .i64 (qv p.d q.d))∧Sat W w' []:=by
 refine bS Tryz.func262 [0,1] ?_;have O:=Sat.start W;refine uC 2 ?_;refine uB rfl O ?_;clear O;intro b2 w O;refine uB rfl O ?_;clear O;intro b3 w O;refine uO 5 ?_;refine u1 0 (lS (cs:=[_,_]) rfl) ?_;refine uF rfl (l8 _ p (hp.sat O) hlp) ?_;rintro e w ⟨x,rfl,hx,hT⟩;obtain⟨xva,xvc,xca,xcc,xd⟩:=x;dsimp only at hx hT;have hcx:=i6 p.d;rw[←hx]at hcx;have hlx:=jP p.d;rw[←hx]at hlx;have hxv:=hcx.len;dsimp only;replace O:Sat _ _ (_::_::_):=O.ag hT;clear hT;refine uW (vs:=[_,_]) (cs':=[_,_]) rfl rfl aO (O.p 3) ?_;clear O;intro w O;refine uO 4 ?_;refine u1 0 (lS (cs:=[_,_]) rfl) ?_;refine uF rfl (l8 _ q (hq.sat O) hlq) ?_
 rintro e w ⟨y,rfl,hy,hT⟩;obtain⟨yva,yvc,yca,ycc,yd⟩:=y;dsimp only at hy hT;have hcy:=i6 q.d;rw[←hy]at hcy;have hly:=jP q.d;rw[←hy]at hly;have hyv:=hcy.len;dsimp only;replace O:Sat _ _ (_::_::_):=O.ag hT;clear hT;refine uW (vs:=[_,_]) (cs':=[_,_]) rfl rfl aO (O.p 5) ?_;clear O;intro w O;refine uO 9 ?_;intro a I;refine wp_loop_ghost (fun (mm:Nat) a w=>∃(r:Nat),Ag a 106 [(2,.pointer (some ⟨b2,0,none⟩)),(3,.pointer (some ⟨b3,0,none⟩)),(5,.int .i64 ((r:Nat):Int))]∧Sat W w ([a6 b3 (.cells #[.slice yva yd.vec.length yvc,.slice yca yd.ab.length ycc] 63),a6 b2 (.cells #[.slice xva xd.vec.length xvc,.slice xca xd.ab.length xcc] 63),cq 3 xva xvc xd.vec,bp 219 xca xcc xd.ab,cq 3 yva yvc yd.vec,bp 219 yca ycc yd.ab])∧(r≤16)∧(cx (((List.range 16).map fun r=>gf (ay xd.vec r) (ay yd.vec r)).take r)=0)∧mm=16-r) 16 ?_ ?_
 ·replace I:=I.kp [2,3,5] rfl;exact⟨0,I,((((((O.p 2).p 2).p 5).p 5).p 5).p 5),(by omega),(by rfl),by omega⟩
 intro m a w hI;clear O I;obtain⟨r,I,O,hr,he,rfl⟩:=hI;refine rC 4 I ?_;clear I a;refine aJ 0 0 (aq rfl rfl) ?_ ?_
 ·intro h16;refine uO 17 ?_;refine u1 0 (aa rfl cD) ?_;refine u1 0 (ld rfl) ?_;refine u1 0 (ak rfl ax) ?_;refine aJ 0 0 (aq rfl rfl) ?_ ?_
  ·intro h23;refine uO 4 ?_;refine u1 0 (aa rfl cD) ?_;refine u1 1 (ld rfl) ?_;obtain⟨xva_p,rfl⟩:∃q,xva=some q:=(O.p 2).rd.au (by omega);obtain⟨v1,hv1⟩:∃zz_,xd.vec[r]?=some zz_:=⟨_,List.getElem?_eq_getElem (by omega)⟩;refine u1 0 (ix rfl rfl ax eP) ?_;refine u1 7 (an rfl dA (fP (O.p 2).rd (bu hv1))) ?_;refine u1 0 (aa rfl cD) ?_;refine u1 0 (ld rfl) ?_;refine u1 0 (ak rfl ax) ?_;refine aJ 0 0 (aq rfl rfl) ?_ ?_
   ·intro h33;refine uO 4 ?_;refine u1 0 (aa rfl cD) ?_;refine u1 1 (ld rfl) ?_;obtain⟨yva_p,rfl⟩:∃q,yva=some q:=(O.p 4).rd.au (by omega);obtain⟨v2,hv2⟩:∃zz_,yd.vec[r]?=some zz_:=⟨_,List.getElem?_eq_getElem (by omega)⟩;refine u1 0 (ix rfl rfl ax eP) ?_;refine u1 7 (an rfl dA (fP (O.p 4).rd (bu hv2))) ?_;refine aJ 0 0 (aD rfl rfl) ?_ ?_
    ·intro h41;refine uO 7 ?_;refine uF rfl (gb _ _ _) ?_;rintro e w ⟨rfl,hT⟩;replace O:Sat _ _ _:=O.ag hT;clear hT;refine uO 9 ?_;refine aY ?_;have hg:((List.range 16).map fun r=>gf (ay xd.vec r) (ay yd.vec r))[r]?=some (gf (ay xd.vec r) (ay yd.vec r)):=by rw[List.getElem?_map,List.getElem?_range (by omega)];rfl
     have hvx:=dy hv1;have hvy:=dy hv2;have hne:gf (ay xd.vec r) (ay yd.vec r)≠0:=by rw[hvx,hvy];exact kb h41
     have hz:=ly hg he hne;refine⟨?_,O.nil⟩;unfold qv si;rw[←hx,←hy,cg,hz,if_neg hne,hvx,hvy]
    ·intro h41;refine uO 8 ?_;refine u1 2 (ad rfl rfl) ?_;intro a I;replace I:=I.kp [2,3,5] rfl;have hg:((List.range 16).map fun r=>gf (ay xd.vec r) (ay yd.vec r))[r]?=some (gf (ay xd.vec r) (ay yd.vec r)):=by rw[List.getElem?_map,List.getElem?_range (by omega)];rfl
     have hvx:=dy hv1;have hvy:=dy hv2;exact⟨16-(r+1),by omega,r+1,I,O,by omega,kA hg he (by rw[hvx,hvy];exact eM.2 (by omega)),rfl⟩
   ·intro h33;refine uO 9 ?_;refine aJ 0 0 (aD rfl rfl) ?_ ?_
    ·intro h41;refine uO 7 ?_;refine uF rfl (gb _ _ _) ?_;rintro e w ⟨rfl,hT⟩;replace O:Sat _ _ _:=O.ag hT;clear hT;refine uO 9 ?_;refine aY ?_;have hg:((List.range 16).map fun r=>gf (ay xd.vec r) (ay yd.vec r))[r]?=some (gf (ay xd.vec r) (ay yd.vec r)):=by rw[List.getElem?_map,List.getElem?_range (by omega)];rfl
     have hvx:=dy hv1;have hvy:ay yd.vec r=0:=eK (by omega);have hne:gf (ay xd.vec r) (ay yd.vec r)≠0:=by rw[hvx,hvy];exact kb h41
     have hz:=ly hg he hne;refine⟨?_,O.nil⟩;unfold qv si;rw[←hx,←hy,cg,hz,if_neg hne,hvx,hvy]
    ·intro h41;refine uO 8 ?_;refine u1 2 (ad rfl rfl) ?_;intro a I;replace I:=I.kp [2,3,5] rfl;have hg:((List.range 16).map fun r=>gf (ay xd.vec r) (ay yd.vec r))[r]?=some (gf (ay xd.vec r) (ay yd.vec r)):=by rw[List.getElem?_map,List.getElem?_range (by omega)];rfl
     have hvx:=dy hv1;have hvy:ay yd.vec r=0:=eK (by omega);exact⟨16-(r+1),by omega,r+1,I,O,by omega,kA hg he (by rw[hvx,hvy];exact eM.2 (by omega)),rfl⟩
  ·intro h23;refine uO 9 ?_;refine u1 0 (aa rfl cD) ?_;refine u1 0 (ld rfl) ?_;refine u1 0 (ak rfl ax) ?_;refine aJ 0 0 (aq rfl rfl) ?_ ?_
   ·intro h33;refine uO 4 ?_;refine u1 0 (aa rfl cD) ?_;refine u1 1 (ld rfl) ?_;obtain⟨yva_p,rfl⟩:∃q,yva=some q:=(O.p 4).rd.au (by omega);obtain⟨v2,hv2⟩:∃zz_,yd.vec[r]?=some zz_:=⟨_,List.getElem?_eq_getElem (by omega)⟩;refine u1 0 (ix rfl rfl ax eP) ?_;refine u1 7 (an rfl dA (fP (O.p 4).rd (bu hv2))) ?_;refine aJ 0 0 (aD rfl rfl) ?_ ?_
    ·intro h41;refine uO 7 ?_;refine uF rfl (gb _ _ _) ?_;rintro e w ⟨rfl,hT⟩;replace O:Sat _ _ _:=O.ag hT;clear hT;refine uO 9 ?_;refine aY ?_;have hg:((List.range 16).map fun r=>gf (ay xd.vec r) (ay yd.vec r))[r]?=some (gf (ay xd.vec r) (ay yd.vec r)):=by rw[List.getElem?_map,List.getElem?_range (by omega)];rfl
     have hvx:ay xd.vec r=0:=eK (by omega);have hvy:=dy hv2;have hne:gf (ay xd.vec r) (ay yd.vec r)≠0:=by rw[hvx,hvy];exact kb h41
     have hz:=ly hg he hne;refine⟨?_,O.nil⟩;unfold qv si;rw[←hx,←hy,cg,hz,if_neg hne,hvx,hvy]
    ·intro h41;refine uO 8 ?_;refine u1 2 (ad rfl rfl) ?_;intro a I;replace I:=I.kp [2,3,5] rfl;have hg:((List.range 16).map fun r=>gf (ay xd.vec r) (ay yd.vec r))[r]?=some (gf (ay xd.vec r) (ay yd.vec r)):=by rw[List.getElem?_map,List.getElem?_range (by omega)];rfl
     have hvx:ay xd.vec r=0:=eK (by omega);have hvy:=dy hv2;exact⟨16-(r+1),by omega,r+1,I,O,by omega,kA hg he (by rw[hvx,hvy];exact eM.2 (by omega)),rfl⟩
   ·intro h33;refine uO 9 ?_;refine u1 8 (dz (aD rfl rfl) (by omega)) ?_;refine u1 2 (ad rfl rfl) ?_;intro a I;replace I:=I.kp [2,3,5] rfl;have hg:((List.range 16).map fun r=>gf (ay xd.vec r) (ay yd.vec r))[r]?=some (gf (ay xd.vec r) (ay yd.vec r)):=by rw[List.getElem?_map,List.getElem?_range (by omega)];rfl
    have hvx:ay xd.vec r=0:=eK (by omega);have hvy:ay yd.vec r=0:=eK (by omega);exact⟨16-(r+1),by omega,r+1,I,O,by omega,kA hg he (by rw[hvx,hvy];exact eM.2 (by omega)),rfl⟩
 ·intro h16;refine uO 15 ?_;intro a I;refine wp_loop_ghost (fun (mm:Nat) a w=>∃(k:Nat),Ag a 106 [(2,.pointer (some ⟨b2,0,none⟩)),(3,.pointer (some ⟨b3,0,none⟩)),(8,.int .i64 ((k:Nat):Int))]∧Sat W w ([a6 b3 (.cells #[.slice yva yd.vec.length yvc,.slice yca yd.ab.length ycc] 63),a6 b2 (.cells #[.slice xva xd.vec.length xvc,.slice xca xd.ab.length xcc] 63),cq 3 xva xvc xd.vec,bp 219 xca xcc xd.ab,cq 3 yva yvc yd.vec,bp 219 yca ycc yd.ab])∧(k≤xd.ab.length)∧(k≤yd.ab.length)∧(dn (xd.ab.drop k) (yd.ab.drop k)=dn xd.ab yd.ab)∧mm=xd.ab.length-k) xd.ab.length ?_ ?_
  ·replace I:=I.kp [2,3,8] rfl;exact⟨0,I,O,(by omega),(by omega),(by rfl),by omega⟩
  intro m a w hI;clear O I;obtain⟨k,I,O,hk1,hk2,hc,rfl⟩:=hI;refine rC 4 I ?_;clear I a;refine u1 0 (aa rfl cd) ?_;refine u1 0 (ld rfl) ?_;refine u1 0 (ak rfl dt) ?_;refine aJ 0 0 (aq rfl rfl) ?_ ?_
  ·intro h49;refine uO 2 ?_;refine u1 0 (aa rfl cd) ?_;refine u1 0 (ld rfl) ?_;refine u1 0 (ak rfl dt) ?_;refine aJ 0 0 (aq rfl rfl) ?_ ?_
   ·intro h55;refine uO 8 ?_;intro a I;refine dx (fun a w=>∃(b9 b10:Nat) (s t:aL),Ag a 106 [(2,.pointer (some ⟨b2,0,none⟩)),(3,.pointer (some ⟨b3,0,none⟩)),(8,.int .i64 ((k:Nat):Int)),(9,.pointer (some ⟨b9,0,none⟩)),(10,.pointer (some ⟨b10,0,none⟩))]∧Sat W w ([a6 b9 (.cells #[.int .i64 s.rep,.int .i64 s.lo,.int .i64 s.hi] 219),a6 b10 (.cells #[.int .i64 t.rep,.int .i64 t.lo,.int .i64 t.hi] 219),a6 b3 (.cells #[.slice yva yd.vec.length yvc,.slice yca yd.ab.length ycc] 63),a6 b2 (.cells #[.slice xva xd.vec.length xvc,.slice xca xd.ab.length xcc] 63),cq 3 xva xvc xd.vec,bp 219 xca xcc xd.ab,cq 3 yva yvc yd.vec,bp 219 yca ycc yd.ab])∧(xd.ab[k]?=some s)∧(yd.ab[k]?=some t)) ?_ ?_
    ·refine bf [13] O (by kernel_rfl) ?_;replace O:=O.drew;refine P1 0 [] I rfl (fun w=>(aa (I.ev rfl) cd)) ?_;clear I a;refine cZ 1 [2] rfl (by exact⟨[],O⟩) (fun w hT=>have O:=hT.sat;(ld rfl)) ?_;obtain⟨xca_p,rfl⟩:∃q,xca=some q:=(O.p 3).rd.au (by omega);obtain⟨s,hs⟩:∃zz_,xd.ab[k]?=some zz_:=⟨_,List.getElem?_eq_getElem (by omega)⟩;refine bF 3 [] rfl (fun w=>(ix rfl rfl dt cX)) ?_;refine cZ 4 [] rfl (by exact⟨[],O⟩) (fun w hT=>have O:=hT.sat;(aG (cs:=gH s) rfl lr cX (fun j u e=>bQ (O.p 3).rd (dQ hs j u e)))) ?_;refine bF 5 [] rfl (fun w=>(aa rfl cd)) ?_;refine cZ 6 [7] rfl (by exact⟨[],O⟩) (fun w hT=>have O:=hT.sat;(ld rfl)) ?_;obtain⟨yca_p,rfl⟩:∃q,yca=some q:=(O.p 5).rd.au (by omega);obtain⟨t,ht⟩:∃zz_,yd.ab[k]?=some zz_:=⟨_,List.getElem?_eq_getElem (by omega)⟩
     refine bF 8 [] rfl (fun w=>(ix rfl rfl dt cX)) ?_;refine cZ 9 [] rfl (by exact⟨[],O⟩) (fun w hT=>have O:=hT.sat;(aG (cs:=gH t) rfl lr cX (fun j u e=>bQ (O.p 5).rd (dQ ht j u e)))) ?_;intro a I;refine nG 10 11 (by kernel_rfl) ?_ ?_
     ·refine eN I rfl rfl nK O ?_;clear I a O;intro b9 w O;intro a I;refine⟨.inr fun _=>(by exact⟨[_],O⟩),?_⟩;refine aE 11 (by kernel_rfl) ?_;refine eN I rfl rfl nK O ?_;clear I a O;intro b10 w O;intro a I;refine⟨.inr fun _=>(by exact⟨[_,_],O⟩),?_⟩;refine aE 12 (by kernel_rfl) ?_;refine cH (vs:=[_,_,_]) (cs':=[_,_,_]) I rfl rfl rfl cX (by simp[Value.oneCell']) (O.p 1) rfl rfl ?_;clear O;intro w O;refine⟨.inr fun _=>(by exact⟨[_,_],O⟩),?_⟩;refine aE 13 (by kernel_rfl) ?_;refine cH (vs:=[_,_,_]) (cs':=[_,_,_]) I rfl rfl rfl cX (by simp[Value.oneCell']) (O.p 1) rfl rfl ?_;clear O;intro w O;refine⟨.inl rfl,?_⟩;refine ah (by kernel_rfl) ?_ _;replace I:=I.kp [2,3,8,9,10] rfl
      first
       | exact⟨b9,b10,s,t,I,((((((((O.p 7).p 7).p 7).p 7).p 7).p 7).p 6).p 7).cw [_,_,_,_,_,_,_,_],(by exact hs),(by exact ht)⟩
     ·refine eN I rfl rfl nK O ?_;clear I a O;intro b10 w O;intro a I;refine⟨.inr fun _=>(by exact⟨[_],O⟩),?_⟩;refine aE 10 (by kernel_rfl) ?_;refine eN I rfl rfl nK O ?_;clear I a O;intro b9 w O;intro a I;refine⟨.inr fun _=>(by exact⟨[_,_],O⟩),?_⟩;refine aE 12 (by kernel_rfl) ?_;refine cH (vs:=[_,_,_]) (cs':=[_,_,_]) I rfl rfl rfl cX (by simp[Value.oneCell']) O rfl rfl ?_;clear O;intro w O;refine⟨.inr fun _=>(by exact⟨[_,_],O⟩),?_⟩;refine aE 13 (by kernel_rfl) ?_;refine cH (vs:=[_,_,_]) (cs':=[_,_,_]) I rfl rfl rfl cX (by simp[Value.oneCell']) (O.p 1) rfl rfl ?_;clear O;intro w O;refine⟨.inl rfl,?_⟩;refine ah (by kernel_rfl) ?_ _;replace I:=I.kp [2,3,8,9,10] rfl
      first
       | exact⟨b9,b10,s,t,I,((((((((O.p 7).p 7).p 7).p 7).p 7).p 7).p 6).p 7).cw [_,_,_,_,_,_,_,_],(by exact hs),(by exact ht)⟩
    ·intro a w hI;clear O I;obtain⟨b9,b10,s,t,I,O,hs,ht⟩:=hI;refine rC 3 I ?_;clear I a;refine u1 0 (aa rfl cj) ?_;refine u1 0 (ld rfl) ?_;refine u1 0 (aa rfl cj) ?_;refine u1 0 (ld rfl) ?_;refine aJ 0 0 (aD rfl rfl) ?_ ?_
     ·intro h73;refine uO 5 ?_;refine u1 0 (aa rfl cj) ?_;refine u1 0 (ld rfl) ?_;refine u1 0 (aa rfl cj) ?_;refine u1 0 (ld rfl) ?_;refine uF rfl (gb _ _ _) ?_;rintro e w ⟨rfl,hT⟩;replace O:Sat _ _ _:=O.ag hT;clear hT;refine uO 10 ?_;refine aY ?_;have hz:cx ((List.range 16).map fun r=>gf (ay xd.vec r) (ay yd.vec r))=0:=by rw[←List.take_of_length_le (l:=((List.range 16).map fun r=>gf (ay xd.vec r) (ay yd.vec r))) (i:=r) (by simp;omega)];exact he
      have hq:iY s t=gf s.rep t.rep:=by unfold iY;simp only[cx];rw[if_neg (kb h73)]
      rw[aK hs,aK ht,dn,if_neg (by rw[hq];exact kb h73),hq]at hc;refine⟨?_,O.nil⟩;unfold qv si;rw[←hx,←hy,cg,hz,if_pos rfl,jV,←hc]
     ·intro h73;refine uO 8 ?_;refine u1 0 (aa rfl eQ) ?_;refine u1 0 (ld rfl) ?_;refine u1 0 (aa rfl eQ) ?_;refine u1 0 (ld rfl) ?_;refine aJ 0 0 (aD rfl rfl) ?_ ?_
      ·intro h83;refine uO 5 ?_;refine u1 0 (aa rfl eQ) ?_;refine u1 0 (ld rfl) ?_;refine u1 0 (aa rfl eQ) ?_;refine u1 0 (ld rfl) ?_;refine uF rfl (gb _ _ _) ?_;rintro e w ⟨rfl,hT⟩;replace O:Sat _ _ _:=O.ag hT;clear hT;refine uO 10 ?_;refine aY ?_;have hz:cx ((List.range 16).map fun r=>gf (ay xd.vec r) (ay yd.vec r))=0:=by rw[←List.take_of_length_le (l:=((List.range 16).map fun r=>gf (ay xd.vec r) (ay yd.vec r))) (i:=r) (by simp;omega)];exact he
       have hq:iY s t=gf s.lo t.lo:=by unfold iY;simp only[cx];rw[if_pos (eM.2 (by omega))];rw[if_neg (kb h83)]
       rw[aK hs,aK ht,dn,if_neg (by rw[hq];exact kb h83),hq]at hc;refine⟨?_,O.nil⟩;unfold qv si;rw[←hx,←hy,cg,hz,if_pos rfl,jV,←hc]
      ·intro h83;refine uO 7 ?_;refine u1 0 (aa rfl eE) ?_;refine u1 0 (ld rfl) ?_;refine u1 0 (aa rfl eE) ?_;refine u1 0 (ld rfl) ?_;refine aJ 0 0 (aD rfl rfl) ?_ ?_
       ·intro h93;refine uO 5 ?_;refine u1 0 (aa rfl eE) ?_;refine u1 0 (ld rfl) ?_;refine u1 0 (aa rfl eE) ?_;refine u1 0 (ld rfl) ?_;refine uF rfl (gb _ _ _) ?_;rintro e w ⟨rfl,hT⟩;replace O:Sat _ _ _:=O.ag hT;clear hT;refine uO 9 ?_;refine aY ?_;have hz:cx ((List.range 16).map fun r=>gf (ay xd.vec r) (ay yd.vec r))=0:=by rw[←List.take_of_length_le (l:=((List.range 16).map fun r=>gf (ay xd.vec r) (ay yd.vec r))) (i:=r) (by simp;omega)];exact he
        have hq:iY s t=gf s.hi t.hi:=by unfold iY;simp only[cx];rw[if_pos (eM.2 (by omega))];rw[if_pos (eM.2 (by omega))];rw[if_neg (kb h93)]
        rw[aK hs,aK ht,dn,if_neg (by rw[hq];exact kb h93),hq]at hc;refine⟨?_,O.nil⟩;unfold qv si;rw[←hx,←hy,cg,hz,if_pos rfl,jV,←hc]
       ·intro h93;refine uO 8 ?_;refine u1 2 (ad rfl rfl) ?_;intro a I;replace I:=I.kp [2,3,8] rfl;have hz:iY s t=0:=by unfold iY;simp only[cx];rw[if_pos (eM.2 (by omega)),if_pos (eM.2 (by omega)),if_pos (eM.2 (by omega))]
        rw[aK hs,aK ht,dn,if_pos hz]at hc;exact⟨xd.ab.length-(k+1),by omega,k+1,I,O.drop.drop,by omega,by omega,hc,rfl⟩
   ·intro h55;refine uO 9 ?_;intro a I;replace I:=I.kp [2,3] rfl;refine rC 2 I ?_;clear I a;refine u1 0 (aa rfl cd) ?_;refine u1 0 (ld rfl) ?_;refine u1 0 (ak rfl dt) ?_;refine u1 0 (aa rfl cd) ?_;refine u1 0 (ld rfl) ?_;refine u1 0 (ak rfl dt) ?_;refine uF rfl (gb _ _ _) ?_;rintro e w ⟨rfl,hT⟩;replace O:Sat _ _ _:=O.ag hT;clear hT;refine uO 4 ?_;refine aY ?_;have hz:cx ((List.range 16).map fun r=>gf (ay xd.vec r) (ay yd.vec r))=0:=by rw[←List.take_of_length_le (l:=((List.range 16).map fun r=>gf (ay xd.vec r) (ay yd.vec r))) (i:=r) (by simp;omega)];exact he
    rw[wL (by omega) (by omega) (by omega)]at hc;refine⟨?_,O.nil⟩;unfold qv si;rw[←hx,←hy,cg,hz,if_pos rfl,jV,←hc]
  ·intro h49;refine uO 15 ?_;intro a I;replace I:=I.kp [2,3] rfl;refine rC 2 I ?_;clear I a;refine u1 0 (aa rfl cd) ?_;refine u1 0 (ld rfl) ?_;refine u1 0 (ak rfl dt) ?_;refine u1 0 (aa rfl cd) ?_;refine u1 0 (ld rfl) ?_;refine u1 0 (ak rfl dt) ?_;refine uF rfl (gb _ _ _) ?_;rintro e w ⟨rfl,hT⟩;replace O:Sat _ _ _:=O.ag hT;clear hT;refine uO 4 ?_;refine aY ?_;have hz:cx ((List.range 16).map fun r=>gf (ay xd.vec r) (ay yd.vec r))=0:=by rw[←List.take_of_length_le (l:=((List.range 16).map fun r=>gf (ay xd.vec r) (ay yd.vec r))) (i:=r) (by simp;omega)];exact he
   rw[wL (by omega) (by omega) (by omega)]at hc;refine⟨?_,O.nil⟩;unfold qv si;rw[←hx,←hy,cg,hz,if_pos rfl,jV,←hc]
end Go.Proofs.YtkjabaihpkbfhaaGreat.Wk
namespace Go.Proofs.YtkjabaihpkbfhaaGreat.K
open Go Go.RowKit
def rV (a b:List UInt8):Bool:=Op.bytesLess a b
theorem qC (a:List UInt8):rV a []=false:=by cases a<;>rfl
theorem zp (b:UInt8)(y:List UInt8):rV [] (b::y)=true:=rfl
theorem mH (a b:UInt8)(x y:List UInt8):rV (a::x) (b::y)=(decide (a<b) || (a == b && rV x y)):=rfl
theorem qu:∀x:List UInt8,rV x x=false
 | []=>rfl
 | a::x=>by rw[mH,qu x];simp
theorem tq:∀x y:List UInt8,(!(rV x y || x == y))=rV y x
 | [],[]=>rfl
 | [],b::y=>by rw[qC];rfl
 | a::x,[]=>by rw[qC];rfl
 | a :: x, b :: y => by
   rw[mH,mH,←tq x y];rcases Nat.lt_trichotomy a.toNat b.toNat with h | h | h
   ·
    have h1:a<b:=h;have h2:¬b<a:=fun h2=>by have h3:b.toNat<a.toNat:=h2;omega
    have h3:¬b=a:=fun e=>by subst e;omega
    simp[h1,h2,h3]
   ·
    have e:a=b:=UInt8.toNat_inj.1 h;subst e;simp
   ·
    have h1:b<a:=h;have h2:¬a<b:=fun h2=>by have h3:a.toNat<b.toNat:=h2;omega
    have h3:¬a=b:=fun e=>by subst e;omega
    simp[h1,h2,h3]
theorem wW:∀x y z:List UInt8,rV x y=true→rV y z=true→rV x z=true
 | _,_,[],_,h=>by rw[qC]at h;cases h
 | _,[],_::_,h,_=>by rw[qC]at h;cases h
 | [],_::_,_::_,_,_=>rfl
 | a :: x, b :: y, c :: z, h1, h2 => by
   rw[mH]at *;simp only[Bool.or_eq_true,decide_eq_true_eq,Bool.and_eq_true,beq_iff_eq]at *;rcases h1 with h1 | ⟨rfl,h1⟩
   ·
    rcases h2 with h2 | ⟨rfl,h2⟩
    ·
     left;exact UInt8.lt_trans h1 h2
    ·
     exact .inl h1
   ·
    rcases h2 with h2 | ⟨rfl,h2⟩
    ·
     exact .inl h2
    ·
     exact .inr ⟨rfl,wW x y z h1 h2⟩
def yJ (a b:ByteArray):Int:=if rV a.data.toList b.data.toList then -1 else if rV b.data.toList a.data.toList then 1 else 0
theorem B4:∀x y:List UInt8,Lib.compareBytes x y=if rV x y then -1 else if rV y x then 1 else 0
 | [],[]=>rfl
 | [],b::y=>by rw[zp];rfl
 | a::x,[]=>by rw[qC,zp];rfl
 | a :: x, b :: y => by
   rw[Lib.compareBytes,B4 x y,mH,mH]
   by_cases h:a<b
   ·
    simp[h]
   ·
    by_cases h':b<a
    ·
     have e:¬a=b:=fun e=>h (by subst e;exact h')
     simp[h,h',e]
    ·
     have e:a=b:=UInt8.toNat_inj.1 (by
      have h1:¬a.toNat<b.toNat:=h;have h2:¬b.toNat<a.toNat:=h';omega)
     subst e;simp[h]
section
variable {P:Program} {w:World} {ρ:Operand→Value} {t ty yt:TypeId} {x y:Operand} {ps:String} {af:Array Edge} {dd:Option Tmp} {g:Option (Nat×Bool)}
theorem uA (s:ByteArray):s.size=s.data.toList.length:=by cases s;rfl
theorem Gd {s:ByteArray}{j:Nat}{c:UInt8}(hc:s.data.toList[j]?=some c):∃h:j<s.size,s[j]'h=c:=by
 obtain⟨h,e⟩:=List.getElem?_eq_some_iff.1 hc;have h':j<s.size:=by rw[uA];exact h
 refine⟨h',?_⟩;rw[←e];cases s;rfl
theorem vr {s:ByteArray}{i:Int}{j:Nat}{k:IntKind}{c:UInt8}(hx:ρ x=.string s)(hy:ρ y=.int k i)(ht:P.underlying t=some .string)(hi:i=(j:Int))(hc:s.data.toList[j]?=some c) :
 (execOp ρ ⟨dd,.index t x y,ty,ps,af,g⟩).run P w=.ok (.value (.int .u8 (c.toNat:Int))) w:=by
 subst hi;obtain⟨h,e⟩:=Gd hc;have h2:(0:Int)≤(j:Int)∧(j:Int)<(s.size:Int):=⟨by omega,by omega⟩
 have h3:(Instr.index t (.string s) (.int k (j:Int))).run P w=.ok (.int .u8 (c.toNat:Int)) w:=by
  rw[run_index_string _ _ _ _ _ ht,dif_pos h2];simp only[Int.toNat_natCast];rw[e]
 simp[execOp,hx,hy,h3,go_sem]
theorem IE {a b:ByteArray}(hx:ρ x=.string a)(hy:ρ y=.string b):(execOp ρ ⟨dd,.binOp .lss t x y yt,ty,ps,af,g⟩).run P w=.ok (.value (.bool (rV a.data.toList b.data.toList))) w:=by
 simp[execOp,hx,hy,binOp,Op.stringOp,rV,go_sem,ByteArray.toList_eq]
theorem FE {a b:ByteArray}(hx:ρ x=.string a)(hy:ρ y=.string b):(execOp ρ ⟨dd,.binOp .gtr t x y yt,ty,ps,af,g⟩).run P w=.ok (.value (.bool (rV b.data.toList a.data.toList))) w:=by
 have h:=tq a.data.toList b.data.toList;unfold rV at h ⊢;simp[execOp,hx,hy,binOp,Op.stringOp,go_sem,ByteArray.toList_eq,←h]
end
theorem me {w:World}{sz n c k o j:Nat}{p:Addr}{cs:List Value}{u:Value}(hR:Rd w sz (.slice (some p) n c) n cs)(h:cs[k+(o+j)]?=some u):w.cell? (((p.add k).add o).add j)=some u:=by
 rw[add_add,add_add];exact hR.cell h
end Go.Proofs.YtkjabaihpkbfhaaGreat.K
namespace Go.Proofs.YtkjabaihpkbfhaaGreat.Wk
open Go Go.RowKit Go.Proofs.YtkjabaihpkbfhaaGreat Go.Proofs.YtkjabaihpkbfhaaGreat.K Go.Proofs.YtkjabaihpkbfhaaGreat.T
theorem Ef {s:ByteArray}(h:s.data.toList.length=0):s={ data:=#[] }:=by
 obtain⟨⟨l⟩⟩:=s;have:l=[]:=List.eq_nil_of_length_eq_zero h;subst this;rfl
theorem jJ (x:aS)(j:Nat)(u:Value)(e:([Value.int .i64 x.rep,Value.int .i64 x.num]:List Value)[j]?=some u):(lG x)[0+j]?=some u:=by
 have hj:=(List.getElem?_eq_some_iff.1 e).1;rw[Nat.zero_add,←e]
 match j,hj with
 | 0,_=>rfl
 | 1,_=>rfl
theorem tG (W:World)(c:UInt8)  : Calls Tryz.prog 246 #[.int .u8 (c.toNat:Int)] W fun e w'=>e=.returned (.bool (xF c))∧Sat W w' []:=by
 refine bS Tryz.func246 [0] ?_;have O:=Sat.start W;refine uC 8 ?_;refine aJ 0 0 (dD rfl rfl) ?_ ?_
 ·intro h4;refine uO 2 ?_;refine u1 5 (dD rfl rfl) ?_;refine aY ?_;refine⟨?_,O⟩;unfold xF
  congr 2
  rw[Bool.eq_iff_iff];simp only[Bool.and_eq_true,Bool.or_eq_true,decide_eq_true_eq,Bool.false_eq_true,false_iff,true_iff];omega
 ·intro h4;refine uO 8 ?_;refine aY ?_;refine⟨?_,O⟩;unfold xF
  congr 2
  rw[Bool.eq_iff_iff];simp only[Bool.and_eq_true,Bool.or_eq_true,decide_eq_true_eq,Bool.false_eq_true,false_iff,true_iff];omega
theorem wc (W:World)(c:UInt8)  : Calls Tryz.prog 247 #[.int .u8 (c.toNat:Int)] W fun e w'=>e=.returned (.bool (yA c))∧Sat W w' []:=by
 refine bS Tryz.func247 [0] ?_;have O:=Sat.start W;refine uC 8 ?_;refine aJ 0 0 (dD rfl rfl) ?_ ?_
 ·intro h4;refine uO 2 ?_;refine u1 5 (dD rfl rfl) ?_;refine aY ?_;refine⟨?_,O⟩;unfold yA
  congr 2
  rw[Bool.eq_iff_iff];simp only[Bool.and_eq_true,Bool.or_eq_true,decide_eq_true_eq,Bool.false_eq_true,false_iff,true_iff];omega
 ·intro h4;refine uO 8 ?_;refine aY ?_;refine⟨?_,O⟩;unfold yA
  congr 2
  rw[Bool.eq_iff_iff];simp only[Bool.and_eq_true,Bool.or_eq_true,decide_eq_true_eq,Bool.false_eq_true,false_iff,true_iff];omega
theorem rf (W:World)(c:UInt8)  : Calls Tryz.prog 248 #[.int .u8 (c.toNat:Int)] W fun e w'=>e=.returned (.bool (tK c))∧Sat W w' []:=by
 refine bS Tryz.func248 [0] ?_;have O:=Sat.start W;refine uC 8 ?_;refine aJ 0 0 (aU rfl rfl) ?_ ?_
 ·intro h4;refine uO 8 ?_;refine aY ?_;refine⟨?_,O⟩;unfold tK
  congr 2
  rw[Bool.eq_iff_iff];simp only[Bool.and_eq_true,Bool.or_eq_true,decide_eq_true_eq,Bool.false_eq_true,false_iff,true_iff];omega
 ·intro h4;refine uO 2 ?_;refine u1 5 (aU rfl rfl) ?_;refine aY ?_;refine⟨?_,O⟩;unfold tK
  congr 2
  rw[Bool.eq_iff_iff];simp only[Bool.and_eq_true,Bool.or_eq_true,decide_eq_true_eq,Bool.false_eq_true,false_iff,true_iff];omega
theorem xW (W:World)(c:UInt8)  : Calls Tryz.prog 291 #[.int .u8 (c.toNat:Int)] W fun e w'=>e=.returned (.bool (xF c))∧Sat W w' []:=by
 refine bS Tryz.func291 [0] ?_;have O:=Sat.start W;refine uC 8 ?_;refine aJ 0 0 (dF rfl rfl) ?_ ?_
 ·intro h4;refine uO 2 ?_;refine u1 5 (dD rfl rfl) ?_;refine aY ?_;refine⟨?_,O⟩;unfold xF
  congr 2
  rw[Bool.eq_iff_iff];simp only[Bool.and_eq_true,Bool.or_eq_true,decide_eq_true_eq,Bool.false_eq_true,false_iff,true_iff];omega
 ·intro h4;refine uO 8 ?_;refine aY ?_;refine⟨?_,O⟩;unfold xF
  congr 2
  rw[Bool.eq_iff_iff];simp only[Bool.and_eq_true,Bool.or_eq_true,decide_eq_true_eq,Bool.false_eq_true,false_iff,true_iff];omega
theorem zF (W:World)(c:UInt8)  : Calls Tryz.prog 292 #[.int .u8 (c.toNat:Int)] W fun e w'=>e=.returned (.bool (yA c))∧Sat W w' []:=by
 refine bS Tryz.func292 [0] ?_;have O:=Sat.start W;refine uC 8 ?_;refine aJ 0 0 (dF rfl rfl) ?_ ?_
 ·intro h4;refine uO 2 ?_;refine u1 5 (dD rfl rfl) ?_;refine aY ?_;refine⟨?_,O⟩;unfold yA
  congr 2
  rw[Bool.eq_iff_iff];simp only[Bool.and_eq_true,Bool.or_eq_true,decide_eq_true_eq,Bool.false_eq_true,false_iff,true_iff];omega
 ·intro h4;refine uO 8 ?_;refine aY ?_;refine⟨?_,O⟩;unfold yA
  congr 2
  rw[Bool.eq_iff_iff];simp only[Bool.and_eq_true,Bool.or_eq_true,decide_eq_true_eq,Bool.false_eq_true,false_iff,true_iff];omega
theorem u9 (W:World)(c:UInt8)  : Calls Tryz.prog 293 #[.int .u8 (c.toNat:Int)] W fun e w'=>e=.returned (.bool (tK c))∧Sat W w' []:=by
 refine bS Tryz.func293 [0] ?_;have O:=Sat.start W;refine uC 8 ?_;refine aJ 0 0 (aU rfl rfl) ?_ ?_
 ·intro h4;refine uO 8 ?_;refine aY ?_;refine⟨?_,O⟩;unfold tK
  congr 2
  rw[Bool.eq_iff_iff];simp only[Bool.and_eq_true,Bool.or_eq_true,decide_eq_true_eq,Bool.false_eq_true,false_iff,true_iff];omega
 ·intro h4;refine uO 2 ?_;refine u1 5 (aU rfl rfl) ?_;refine aY ?_;refine⟨?_,O⟩;unfold tK
  congr 2
  rw[Bool.eq_iff_iff];simp only[Bool.and_eq_true,Bool.or_eq_true,decide_eq_true_eq,Bool.false_eq_true,false_iff,true_iff];omega
theorem vZ (W:World)(s:ByteArray)  : Calls Tryz.prog 196 #[.string s] W fun e w'=>e=.returned (.tuple #[.int .i64 (((pW s.data.toList).1:Nat):Int),.int .i64 (pW s.data.toList).2])∧Sat W w' []:=by
 refine bS Tryz.func196 [0] ?_;have O:=Sat.start W;have hsz:=uA s;refine uC 10 ?_;refine aJ 0 0 (jl rfl rfl) ?_ ?_
 ·intro h7;refine uO 11 ?_;refine fo ?_;obtain rfl:=h7;exact⟨rfl,O⟩
 ·intro h7;have h0:s.data.toList.length≠0:=fun h0=>h7 (Ef h0)
  refine uO 9 ?_;refine u1 0 (iW rfl yH) ?_;refine aJ 0 0 (cG rfl rfl) ?_ ?_
  ·intro h10;refine uO 11 ?_;refine fo ?_;refine⟨?_,O⟩;unfold pW;rw[if_neg (by omega),if_pos (by omega)];rfl
  ·intro h10;intro a I;rw[hsz]at I h10;refine rO 9 I ?_;clear I a;refine u1 4 (iW rfl yH) ?_;intro a I;refine wp_loop_ghost (fun (mm:Nat) a w=>∃(i:Nat),Ag a 48 [(0,.string s),(12,.int .i64 ((s.data.toList.length:Nat):Int)),(13,.int .i64 ((i:Nat):Int))]∧Sat W w ([])∧(i≤s.data.toList.length)∧(∀j,j<i→rU s.data.toList j=true)∧mm=s.data.toList.length-i) s.data.toList.length ?_ ?_
   ·replace I:=I.kp [0,12,13] rfl;exact⟨0,I,O,(by omega),(by intro j hj;omega),by omega⟩
   intro m a w hI;clear O I;obtain⟨i,I,O,hi,he,rfl⟩:=hI;refine rC 2 I ?_;clear I a;refine aJ 0 0 (aq rfl rfl) ?_ ?_
   ·intro h14;refine uO 18 ?_;obtain⟨c,hc⟩:∃zz_,s.data.toList[i]?=some zz_:=⟨_,List.getElem?_eq_getElem (by omega)⟩;refine u1 7 (vr rfl rfl yH (by omega) hc) ?_;refine uF rfl (tG _ c) ?_;rintro e w ⟨rfl,hT⟩;replace O:Sat _ _ _:=O.ag hT;clear hT;generalize h20:(xF c)=bb;cases bb
    ·refine uO 2 ?_;refine iV rfl (wc _ c) ?_;rintro e w ⟨rfl,hT⟩;replace O:Sat _ _ _:=O.ag hT;clear hT;generalize h23:(yA c)=bb;cases bb
     ·refine uO 9 ?_;refine uF rfl (rf _ c) ?_;rintro e w ⟨rfl,hT⟩;replace O:Sat _ _ _:=O.ag hT;clear hT;generalize h26:(tK c)=bb;cases bb
      ·refine u1 34 (aB rfl) ?_;refine fo ?_
       have hst:rU s.data.toList i=false:=by
        unfold rU;rw[hc];simp[h20,h23,h26]
       refine⟨?_,O⟩;rw[ot (by omega) (by omega) (by omega) hst he]
      ·refine u1 2 (aB rfl) ?_;refine aJ 0 0 (aU rfl rfl) ?_ ?_
       ·intro h30;refine uO 31 ?_;refine fo ?_
        have hst:rU s.data.toList i=false:=by
         unfold rU;rw[hc];have e:i=0:=by omega
         simp[h20,h23,e]
        refine⟨?_,O⟩;rw[ot (by omega) (by omega) (by omega) hst he]
       ·intro h30;refine uO 4 ?_;refine u1 0 (iW rfl yH) ?_;refine u1 0 (sb rfl rfl) ?_;refine aJ 0 0 (aU rfl rfl) ?_ ?_
        ·intro h37;refine uO 24 ?_;refine fo ?_
         have hst:rU s.data.toList i=false:=by
          unfold rU;rw[hc];have e:i+1=s.size:=by omega
          simp[h20,h23,e]
         refine⟨?_,O⟩;rw[ot (by omega) (by omega) (by omega) hst he]
        ·intro h37;refine uO 4 ?_;refine u1 0 (sb rfl rfl) ?_;obtain⟨p,hp⟩:∃zz_,s.data.toList[i-1]?=some zz_:=⟨_,List.getElem?_eq_getElem (by omega)⟩;refine u1 0 (vr rfl rfl yH (by omega) hp) ?_;refine iV rfl (rf _ p) ?_;rintro e w ⟨rfl,hT⟩;replace O:Sat _ _ _:=O.ag hT;clear hT;generalize h44:(tK p)=bb;cases bb
         ·refine uO 8 ?_;refine u1 2 (ad rfl rfl) ?_;intro a I;replace I:=I.kp [0,12,13] rfl
          have hst:rU s.data.toList i=true:=by
           unfold rU;rw[hc];have e1:i≠0:=by omega
           have e2:¬i+1=s.size:=by omega
           simp[h20,h23,h26,e1,e2,hp,h44]
          exact⟨s.data.toList.length-(i+1),by omega,i+1,I,O,by omega,fun j hj=>(by rcases Nat.lt_or_ge j i with h | h;exact he j h;obtain rfl:j=i:=(by omega);exact hst),rfl⟩
         ·refine uO 17 ?_;refine fo ?_
          have hst:rU s.data.toList i=false:=by
           unfold rU;rw[hc];have e1:i≠0:=by omega
           have e2:¬i+1=s.size:=by omega
           simp[h20,h23,h26,e1,e2,hp,h44]
          refine⟨?_,O⟩;rw[ot (by omega) (by omega) (by omega) hst he]
     ·refine uO 9 ?_;refine u1 2 (ad rfl rfl) ?_;intro a I;replace I:=I.kp [0,12,13] rfl
      have hst:rU s.data.toList i=true:=by
       unfold rU;rw[hc];simp[h20,h23]
      exact⟨s.data.toList.length-(i+1),by omega,i+1,I,O,by omega,fun j hj=>(by rcases Nat.lt_or_ge j i with h | h;exact he j h;obtain rfl:j=i:=(by omega);exact hst),rfl⟩
    ·refine uO 12 ?_;refine u1 2 (ad rfl rfl) ?_;intro a I;replace I:=I.kp [0,12,13] rfl
     have hst:rU s.data.toList i=true:=by
      unfold rU;rw[hc];simp[h20]
     exact⟨s.data.toList.length-(i+1),by omega,i+1,I,O,by omega,fun j hj=>(by rcases Nat.lt_or_ge j i with h | h;exact he j h;obtain rfl:j=i:=(by omega);exact hst),rfl⟩
   ·intro h14;refine uO 9 ?_;intro a I;replace I:=I.kp [] rfl;refine rC 7 I ?_;clear I a;refine fo ?_;obtain rfl:i=s.data.toList.length:=by omega
    refine⟨?_,O⟩;rw[BX (by omega) (by omega) he];rfl
theorem pB (W:World)(s:ByteArray)  : Calls Tryz.prog 163 #[.string s] W fun e w'=>e=.returned (.bool (lE s))∧Sat W w' []:=by
 refine bS Tryz.func163 [0] ?_;have O:=Sat.start W;refine uC 8 ?_;refine uF rfl (vZ _ s) ?_;rintro e w ⟨rfl,hT⟩;replace O:Sat _ _ _:=O.ag hT;clear hT;refine uO 1 ?_;refine u1 0 (ai rfl rfl) ?_;refine u1 7 (ai rfl rfl) ?_;refine u1 4 (aU rfl rfl) ?_;refine aY ?_;exact⟨rfl,O⟩
theorem xD (W:World)(s:ByteArray)(i:Nat)(hi:i<s.data.toList.length)(hl:s.data.toList.length≤24):Calls Tryz.prog 283 #[.string s,.int .i64 ((i:Nat):Int)] W fun e w'=>e=.returned (.bool (rU s.data.toList i))∧Sat W w' []:=by
 refine bS Tryz.func283 [0,1] ?_;have O:=Sat.start W;have hsz:=uA s;refine uC 9 ?_;obtain⟨c,hc⟩:∃zz_,s.data.toList[i]?=some zz_:=⟨_,List.getElem?_eq_getElem (by omega)⟩;refine u1 7 (vr rfl rfl yH (by omega) hc) ?_;refine uF rfl (xW _ c) ?_;rintro e w ⟨rfl,hT⟩;replace O:Sat _ _ _:=O.ag hT;clear hT;generalize h10:(xF c)=bb;cases bb
 ·refine uO 2 ?_;refine iV rfl (zF _ c) ?_;rintro e w ⟨rfl,hT⟩;replace O:Sat _ _ _:=O.ag hT;clear hT;generalize h13:(yA c)=bb;cases bb
  ·refine uO 10 ?_;refine uF rfl (u9 _ c) ?_;rintro e w ⟨rfl,hT⟩;replace O:Sat _ _ _:=O.ag hT;clear hT;generalize h16:(tK c)=bb;cases bb
   ·refine u1 10 (aB rfl) ?_;refine aY ?_;refine⟨?_,O⟩
    congr 2
    unfold rU;rw[hc];simp[h10,h13,h16]
   ·refine u1 9 (aB rfl) ?_;refine aJ 0 0 (aU rfl rfl) ?_ ?_
    ·intro h19;refine uO 9 ?_;intro a I;replace I:=I.kp [0,1,4,26] rfl;refine rC 8 I ?_;clear I a;refine aY ?_;refine⟨?_,O⟩
     congr 2
     unfold rU;rw[hc];have e:i=0:=by omega
     simp[h10,h13,e]
    ·intro h19;refine uO 3 ?_;refine u1 0 (iW rfl yH) ?_;refine u1 0 (sb rfl rfl) ?_;refine aJ 0 0 (aU rfl rfl) ?_ ?_
     ·intro h25;refine uO 3 ?_;intro a I;replace I:=I.kp [0,1,4,26] rfl;refine rC 8 I ?_;clear I a;refine aY ?_;refine⟨?_,O⟩
      congr 2
      unfold rU;rw[hc];have e:i+1=s.size:=by omega
      simp[h10,h13,e]
     ·intro h25;refine uO 3 ?_;intro a I;replace I:=I.kp [0,1,4,26] rfl;refine rC 7 I ?_;clear I a;refine u1 0 (sb rfl rfl) ?_;obtain⟨p,hp⟩:∃zz_,s.data.toList[i-1]?=some zz_:=⟨_,List.getElem?_eq_getElem (by omega)⟩;refine u1 0 (vr rfl rfl yH (by omega) hp) ?_;refine uF rfl (u9 _ p) ?_;rintro e w ⟨rfl,hT⟩;replace O:Sat _ _ _:=O.ag hT;clear hT;refine u1 4 (aB rfl) ?_;refine aY ?_;refine⟨?_,O⟩
      congr 2
      unfold rU;rw[hc];have e1:i≠0:=by omega
      have e2:¬i+1=s.size:=by omega
      simp[h10,h13,h16,e1,e2,hp]
  ·refine uO 11 ?_;refine aY ?_;refine⟨?_,O⟩
   congr 2
   unfold rU;rw[hc];simp[h10,h13]
 ·refine uO 14 ?_;refine aY ?_;refine⟨?_,O⟩
  congr 2
  unfold rU;rw[hc];simp[h10]
theorem te (W:World)(s:ByteArray)  : Calls Tryz.prog 272 #[.string s] W fun e w'=>e=.returned (.tuple #[.int .i64 (((pW s.data.toList).1:Nat):Int),.int .i64 (pW s.data.toList).2])∧Sat W w' []:=by
 refine bS Tryz.func272 [0] ?_;have O:=Sat.start W;have hsz:=uA s;refine uC 10 ?_;refine u1 0 (iW rfl yH) ?_;refine aJ 0 0 (aU rfl rfl) ?_ ?_
 ·intro h7;refine uO 11 ?_;refine fo ?_;refine⟨?_,O⟩;unfold pW;rw[if_pos (by omega)];rfl
 ·intro h7;refine uO 9 ?_;refine u1 0 (iW rfl yH) ?_;refine aJ 0 0 (cG rfl rfl) ?_ ?_
  ·intro h10;refine uO 11 ?_;refine fo ?_;refine⟨?_,O⟩;unfold pW;rw[if_neg (by omega),if_pos (by omega)];rfl
  ·intro h10;refine uO 12 ?_;intro a I;refine wp_loop_ghost (fun (mm:Nat) a w=>∃(i:Nat),Ag a 22 [(0,.string s),(4,.int .i64 ((i:Nat):Int))]∧Sat W w ([])∧(i≤s.data.toList.length)∧(∀j,j<i→rU s.data.toList j=true)∧mm=s.data.toList.length-i) s.data.toList.length ?_ ?_
   ·replace I:=I.kp [0,4] rfl;exact⟨0,I,O,(by omega),(by intro j hj;omega),by omega⟩
   intro m a w hI;clear O I;obtain⟨i,I,O,hi,he,rfl⟩:=hI;refine rC 5 I ?_;clear I a;refine u1 0 (iW rfl yH) ?_;refine aJ 0 0 (aq rfl rfl) ?_ ?_
   ·intro h14;refine uO 11 ?_;refine uF rfl (xD _ s i (by omega) (by omega)) ?_;rintro e w ⟨rfl,hT⟩;replace O:Sat _ _ _:=O.ag hT;clear hT;generalize h19:(rU s.data.toList i)=bb;cases bb
    ·refine u1 16 (aB rfl) ?_;refine fo ?_;refine⟨?_,O⟩;rw[ot (by omega) (by omega) (by omega) h19 he]
    ·refine u1 8 (aB rfl) ?_;refine u1 2 (ad rfl rfl) ?_;intro a I;replace I:=I.kp [0,4] rfl;exact⟨s.data.toList.length-(i+1),by omega,i+1,I,O,by omega,fun j hj=>(by rcases Nat.lt_or_ge j i with h | h;exact he j h;obtain rfl:j=i:=(by omega);exact h19),rfl⟩
   ·intro h14;refine uO 8 ?_;intro a I;replace I:=I.kp [] rfl;refine rC 7 I ?_;clear I a;refine fo ?_;obtain rfl:i=s.data.toList.length:=by omega
    refine⟨?_,O⟩;rw[BX (by omega) (by omega) he];rfl
theorem ft (W:World)(s:ByteArray)  : Calls Tryz.prog 242 #[.string s] W fun e w'=>e=.returned (.bool (lE s))∧Sat W w' []:=by
 refine bS Tryz.func242 [0] ?_;have O:=Sat.start W;refine uC 8 ?_;refine uF rfl (te _ s) ?_;rintro e w ⟨rfl,hT⟩;replace O:Sat _ _ _:=O.ag hT;clear hT;refine uO 1 ?_;refine u1 0 (ai rfl rfl) ?_;refine u1 7 (ai rfl rfl) ?_;refine u1 4 (aU rfl rfl) ?_;refine aY ?_;exact⟨rfl,O⟩
theorem xI (W:World)(a b:aS)  : Calls Tryz.prog 156 #[.agg #[.int .i64 a.rep,.int .i64 a.num],.agg #[.int .i64 b.rep,.int .i64 b.num]] W fun e w'=>e=.returned (.bool (nj a b))∧Sat W w' []:=by
 refine bS Tryz.func156 [0,1] ?_;have O:=Sat.start W;refine uC 2 ?_;refine uB rfl O ?_;clear O;intro b2 w O;refine uB rfl O ?_;clear O;intro b3 w O;refine uO 5 ?_;refine u1 0 (aa rfl bM) ?_;refine u1 0 (ld rfl) ?_;refine u1 0 (aa rfl bM) ?_;refine u1 0 (ld rfl) ?_;refine aJ 0 0 (aq rfl rfl) ?_ ?_
 ·intro h9;refine uO 18 ?_;refine aY ?_;refine⟨?_,O.nil⟩;unfold nj
  congr 2
  rw[Bool.eq_iff_iff];simp only[Bool.and_eq_true,Bool.or_eq_true,decide_eq_true_eq,Bool.false_eq_true,false_iff,true_iff];omega
 ·intro h9;refine uO 1 ?_;refine u1 0 (aa rfl bM) ?_;refine u1 0 (ld rfl) ?_;refine u1 0 (aa rfl bM) ?_;refine u1 0 (ld rfl) ?_;refine aJ 0 0 (aU rfl rfl) ?_ ?_
  ·intro h15;refine uO 1 ?_;refine u1 0 (aa rfl bX) ?_;refine u1 0 (ld rfl) ?_;refine u1 0 (aa rfl bX) ?_;refine u1 0 (ld rfl) ?_;refine u1 6 (aq rfl rfl) ?_;refine aY ?_;refine⟨?_,O.nil⟩;unfold nj
   congr 2
   rw[Bool.eq_iff_iff];simp only[Bool.and_eq_true,Bool.or_eq_true,decide_eq_true_eq,Bool.false_eq_true,false_iff,true_iff];omega
  ·intro h15;refine uO 12 ?_;refine aY ?_;refine⟨?_,O.nil⟩;unfold nj
   congr 2
   rw[Bool.eq_iff_iff];simp only[Bool.and_eq_true,Bool.or_eq_true,decide_eq_true_eq,Bool.false_eq_true,false_iff,true_iff];omega
theorem yp (W:World)(a b:aS)  : Calls Tryz.prog 226 #[.agg #[.int .i64 a.rep,.int .i64 a.num],.agg #[.int .i64 b.rep,.int .i64 b.num]] W fun e w'=>e=.returned (.bool (nj a b))∧Sat W w' []:=by
 refine bS Tryz.func226 [0,1] ?_;have O:=Sat.start W;refine uC 2 ?_;refine uB rfl O ?_;clear O;intro b2 w O;refine uB rfl O ?_;clear O;intro b3 w O;refine uO 5 ?_;refine u1 0 (aa rfl bM) ?_;refine u1 0 (ld rfl) ?_;refine u1 0 (aa rfl bM) ?_;refine u1 0 (ld rfl) ?_;refine aJ 0 0 (aq rfl rfl) ?_ ?_
 ·intro h9;refine uO 18 ?_;refine aY ?_;refine⟨?_,O.nil⟩;unfold nj
  congr 2
  rw[Bool.eq_iff_iff];simp only[Bool.and_eq_true,Bool.or_eq_true,decide_eq_true_eq,Bool.false_eq_true,false_iff,true_iff];omega
 ·intro h9;refine uO 1 ?_;refine u1 0 (aa rfl bM) ?_;refine u1 0 (ld rfl) ?_;refine u1 0 (aa rfl bM) ?_;refine u1 0 (ld rfl) ?_;refine aJ 0 0 (aU rfl rfl) ?_ ?_
  ·intro h15;refine uO 1 ?_;refine u1 0 (aa rfl bX) ?_;refine u1 0 (ld rfl) ?_;refine u1 0 (aa rfl bX) ?_;refine u1 0 (ld rfl) ?_;refine u1 6 (aq rfl rfl) ?_;refine aY ?_;refine⟨?_,O.nil⟩;unfold nj
   congr 2
   rw[Bool.eq_iff_iff];simp only[Bool.and_eq_true,Bool.or_eq_true,decide_eq_true_eq,Bool.false_eq_true,false_iff,true_iff];omega
  ·intro h15;refine uO 12 ?_;refine aY ?_;refine⟨?_,O.nil⟩;unfold nj
   congr 2
   rw[Bool.eq_iff_iff];simp only[Bool.and_eq_true,Bool.or_eq_true,decide_eq_true_eq,Bool.false_eq_true,false_iff,true_iff];omega
theorem yC (W:World)(a b:aS)  : Calls Tryz.prog 264 #[.agg #[.int .i64 a.rep,.int .i64 a.num],.agg #[.int .i64 b.rep,.int .i64 b.num]] W fun e w'=>e=.returned (.bool (nj a b))∧Sat W w' []:=by
 refine bS Tryz.func264 [0,1] ?_;have O:=Sat.start W;refine uC 2 ?_;refine uB rfl O ?_;clear O;intro b2 w O;refine uB rfl O ?_;clear O;intro b3 w O;refine uO 5 ?_;refine u1 0 (aa rfl bM) ?_;refine u1 0 (ld rfl) ?_;refine u1 0 (aa rfl bM) ?_;refine u1 0 (ld rfl) ?_;refine aJ 0 0 (aq rfl rfl) ?_ ?_
 ·intro h9;refine uO 18 ?_;refine aY ?_;refine⟨?_,O.nil⟩;unfold nj
  congr 2
  rw[Bool.eq_iff_iff];simp only[Bool.and_eq_true,Bool.or_eq_true,decide_eq_true_eq,Bool.false_eq_true,false_iff,true_iff];omega
 ·intro h9;refine uO 1 ?_;refine u1 0 (aa rfl bM) ?_;refine u1 0 (ld rfl) ?_;refine u1 0 (aa rfl bM) ?_;refine u1 0 (ld rfl) ?_;refine aJ 0 0 (aU rfl rfl) ?_ ?_
  ·intro h15;refine uO 1 ?_;refine u1 0 (aa rfl bX) ?_;refine u1 0 (ld rfl) ?_;refine u1 0 (aa rfl bX) ?_;refine u1 0 (ld rfl) ?_;refine u1 6 (aq rfl rfl) ?_;refine aY ?_;refine⟨?_,O.nil⟩;unfold nj
   congr 2
   rw[Bool.eq_iff_iff];simp only[Bool.and_eq_true,Bool.or_eq_true,decide_eq_true_eq,Bool.false_eq_true,false_iff,true_iff];omega
  ·intro h15;refine uO 12 ?_;refine aY ?_;refine⟨?_,O.nil⟩;unfold nj
   congr 2
   rw[Bool.eq_iff_iff];simp only[Bool.and_eq_true,Bool.or_eq_true,decide_eq_true_eq,Bool.false_eq_true,false_iff,true_iff];omega
theorem wx (W:World)(a b:aS)  : Calls Tryz.prog 267 #[.agg #[.int .i64 a.rep,.int .i64 a.num],.agg #[.int .i64 b.rep,.int .i64 b.num]] W fun e w'=>e=.returned (.bool (nj a b))∧Sat W w' []:=by
 refine bS Tryz.func267 [0,1] ?_;have O:=Sat.start W;refine uC 2 ?_;refine uB rfl O ?_;clear O;intro b2 w O;refine uB rfl O ?_;clear O;intro b3 w O;refine uO 5 ?_;refine u1 0 (aa rfl bM) ?_;refine u1 0 (ld rfl) ?_;refine u1 0 (aa rfl bM) ?_;refine u1 0 (ld rfl) ?_;refine aJ 0 0 (aq rfl rfl) ?_ ?_
 ·intro h9;refine uO 18 ?_;refine aY ?_;refine⟨?_,O.nil⟩;unfold nj
  congr 2
  rw[Bool.eq_iff_iff];simp only[Bool.and_eq_true,Bool.or_eq_true,decide_eq_true_eq,Bool.false_eq_true,false_iff,true_iff];omega
 ·intro h9;refine uO 1 ?_;refine u1 0 (aa rfl bM) ?_;refine u1 0 (ld rfl) ?_;refine u1 0 (aa rfl bM) ?_;refine u1 0 (ld rfl) ?_;refine aJ 0 0 (aU rfl rfl) ?_ ?_
  ·intro h15;refine uO 1 ?_;refine u1 0 (aa rfl bX) ?_;refine u1 0 (ld rfl) ?_;refine u1 0 (aa rfl bX) ?_;refine u1 0 (ld rfl) ?_;refine u1 6 (aq rfl rfl) ?_;refine aY ?_;refine⟨?_,O.nil⟩;unfold nj
   congr 2
   rw[Bool.eq_iff_iff];simp only[Bool.and_eq_true,Bool.or_eq_true,decide_eq_true_eq,Bool.false_eq_true,false_iff,true_iff];omega
  ·intro h15;refine uO 12 ?_;refine aY ?_;refine⟨?_,O.nil⟩;unfold nj
   congr 2
   rw[Bool.eq_iff_iff];simp only[Bool.and_eq_true,Bool.or_eq_true,decide_eq_true_eq,Bool.false_eq_true,false_iff,true_iff];omega
theorem so (W:World)(e1:aS)  : Calls Tryz.prog 155 #[.agg #[.int .i64 e1.rep,.int .i64 e1.num,.string e1.cM,.int .i64 e1.qy]] W fun e w'=>e=.returned (.int .i64 (mU e1))∧Sat W w' []:=by
 refine bS Tryz.func155 [0] ?_;have O:=Sat.start W;refine uC 2 ?_;refine uB rfl O ?_;clear O;intro b1 w O;refine uO 7 ?_;refine u1 0 (aa rfl dg) ?_;refine u1 0 (aa rfl bM) ?_;refine u1 0 (ld rfl) ?_;refine aJ 0 0 (aq rfl rfl) ?_ ?_
 ·intro h7;refine uO 18 ?_;refine aY ?_;refine⟨?_,O.nil⟩;unfold mU;rw[if_pos (by omega)]
 ·intro h7;refine uO 1 ?_;refine u1 0 (aa rfl dg) ?_;refine u1 0 (aa rfl bM) ?_;refine u1 0 (ld rfl) ?_;refine aJ 0 0 (dF rfl rfl) ?_ ?_
  ·intro h12;refine uO 13 ?_;refine aY ?_;refine⟨?_,O.nil⟩;unfold mU;rw[if_pos (by omega)]
  ·intro h12;refine uO 7 ?_;refine u1 0 (aa rfl dg) ?_;refine u1 0 (aa rfl bX) ?_;refine u1 0 (ld rfl) ?_;refine aJ 0 0 (aq rfl rfl) ?_ ?_
   ·intro h18;refine uO 15 ?_;intro a I;replace I:=I.kp [2] rfl;refine rC 3 I ?_;clear I a;refine aY ?_;refine⟨?_,O.nil⟩;unfold mU;rw[if_neg (by omega),if_pos (by omega)]
   ·intro h18;refine uO 1 ?_;refine u1 0 (aa rfl dg) ?_;refine u1 0 (aa rfl bX) ?_;refine u1 0 (ld rfl) ?_;refine aJ 0 0 (cG rfl rfl) ?_ ?_
    ·intro h23;refine uO 10 ?_;intro a I;replace I:=I.kp [2] rfl;refine rC 3 I ?_;clear I a;refine aY ?_;refine⟨?_,O.nil⟩;unfold mU;rw[if_neg (by omega),if_pos (by omega)]
    ·intro h23;refine uO 7 ?_;refine u1 0 (aa rfl lQ) ?_;refine u1 0 (ld rfl) ?_;refine uF rfl (pB _ e1.cM) ?_;rintro e w ⟨rfl,hT⟩;replace O:Sat _ _ _:=O.ag hT;clear hT;generalize h28:(lE e1.cM)=bb;cases bb
     ·refine u1 3 (aB rfl) ?_;intro a I;replace I:=I.kp [1,2,25] rfl;refine rC 9 I ?_;clear I a;refine aY ?_;refine⟨?_,O.nil⟩;unfold mU;rw[if_neg (by omega),if_neg (by omega),if_pos h28]
     ·refine u1 3 (aB rfl) ?_;intro a I;replace I:=I.kp [1,2,25] rfl;refine rC 3 I ?_;clear I a;refine u1 0 (aa rfl jL) ?_;refine u1 0 (ld rfl) ?_;refine aJ 0 0 (aq rfl rfl) ?_ ?_
      ·intro h33;refine uO 17 ?_;refine aY ?_;refine⟨?_,O.nil⟩;unfold mU;rw[if_neg (by omega),if_neg (by omega),if_neg (by rw[h28];simp),if_pos (by omega)]
      ·intro h33;refine uO 1 ?_;refine u1 0 (aa rfl jL) ?_;refine u1 0 (ld rfl) ?_;refine aJ 0 0 (cG rfl rfl) ?_ ?_
       ·intro h37;refine uO 13 ?_;refine aY ?_;refine⟨?_,O.nil⟩;unfold mU;rw[if_neg (by omega),if_neg (by omega),if_neg (by rw[h28];simp),if_pos (by omega)]
       ·intro h37;refine uO 14 ?_;refine aY ?_;refine⟨?_,O.nil⟩;unfold mU;rw[if_neg (by omega),if_neg (by omega),if_neg (by rw[h28];simp),if_neg (by omega)]
theorem qP (W:World)(e1:aS)  : Calls Tryz.prog 225 #[.agg #[.int .i64 e1.rep,.int .i64 e1.num,.string e1.cM,.int .i64 e1.qy]] W fun e w'=>e=.returned (.int .i64 (mU e1))∧Sat W w' []:=by
 refine bS Tryz.func225 [0] ?_;have O:=Sat.start W;refine uC 2 ?_;refine uB rfl O ?_;clear O;intro b1 w O;refine uO 7 ?_;refine u1 0 (aa rfl dg) ?_;refine u1 0 (aa rfl bM) ?_;refine u1 0 (ld rfl) ?_;refine aJ 0 0 (aq rfl rfl) ?_ ?_
 ·intro h7;refine uO 18 ?_;refine aY ?_;refine⟨?_,O.nil⟩;unfold mU;rw[if_pos (by omega)]
 ·intro h7;refine uO 1 ?_;refine u1 0 (aa rfl dg) ?_;refine u1 0 (aa rfl bM) ?_;refine u1 0 (ld rfl) ?_;refine aJ 0 0 (dF rfl rfl) ?_ ?_
  ·intro h12;refine uO 13 ?_;refine aY ?_;refine⟨?_,O.nil⟩;unfold mU;rw[if_pos (by omega)]
  ·intro h12;refine uO 7 ?_;refine u1 0 (aa rfl dg) ?_;refine u1 0 (aa rfl bX) ?_;refine u1 0 (ld rfl) ?_;refine aJ 0 0 (aq rfl rfl) ?_ ?_
   ·intro h18;refine uO 15 ?_;intro a I;replace I:=I.kp [2] rfl;refine rC 3 I ?_;clear I a;refine aY ?_;refine⟨?_,O.nil⟩;unfold mU;rw[if_neg (by omega),if_pos (by omega)]
   ·intro h18;refine uO 1 ?_;refine u1 0 (aa rfl dg) ?_;refine u1 0 (aa rfl bX) ?_;refine u1 0 (ld rfl) ?_;refine aJ 0 0 (cG rfl rfl) ?_ ?_
    ·intro h23;refine uO 10 ?_;intro a I;replace I:=I.kp [2] rfl;refine rC 3 I ?_;clear I a;refine aY ?_;refine⟨?_,O.nil⟩;unfold mU;rw[if_neg (by omega),if_pos (by omega)]
    ·intro h23;refine uO 7 ?_;refine u1 0 (aa rfl lQ) ?_;refine u1 0 (ld rfl) ?_;refine uF rfl (ft _ e1.cM) ?_;rintro e w ⟨rfl,hT⟩;replace O:Sat _ _ _:=O.ag hT;clear hT;generalize h28:(lE e1.cM)=bb;cases bb
     ·refine u1 3 (aB rfl) ?_;intro a I;replace I:=I.kp [1,2,25] rfl;refine rC 9 I ?_;clear I a;refine aY ?_;refine⟨?_,O.nil⟩;unfold mU;rw[if_neg (by omega),if_neg (by omega),if_pos h28]
     ·refine u1 3 (aB rfl) ?_;intro a I;replace I:=I.kp [1,2,25] rfl;refine rC 3 I ?_;clear I a;refine u1 0 (aa rfl jL) ?_;refine u1 0 (ld rfl) ?_;refine aJ 0 0 (aq rfl rfl) ?_ ?_
      ·intro h33;refine uO 17 ?_;refine aY ?_;refine⟨?_,O.nil⟩;unfold mU;rw[if_neg (by omega),if_neg (by omega),if_neg (by rw[h28];simp),if_pos (by omega)]
      ·intro h33;refine uO 1 ?_;refine u1 0 (aa rfl jL) ?_;refine u1 0 (ld rfl) ?_;refine aJ 0 0 (cG rfl rfl) ?_ ?_
       ·intro h37;refine uO 13 ?_;refine aY ?_;refine⟨?_,O.nil⟩;unfold mU;rw[if_neg (by omega),if_neg (by omega),if_neg (by rw[h28];simp),if_pos (by omega)]
       ·intro h37;refine uO 14 ?_;refine aY ?_;refine⟨?_,O.nil⟩;unfold mU;rw[if_neg (by omega),if_neg (by omega),if_neg (by rw[h28];simp),if_neg (by omega)]
theorem xM (W:World)(e1:aS)  : Calls Tryz.prog 266 #[.agg #[.int .i64 e1.rep,.int .i64 e1.num,.string e1.cM,.int .i64 e1.qy]] W fun e w'=>e=.returned (.bool (fM e1))∧Sat W w' []:=by
 refine bS Tryz.func266 [0] ?_;have O:=Sat.start W;refine uC 2 ?_;refine uB rfl O ?_;clear O;intro b1 w O;refine uO 5 ?_;refine u1 0 (aa rfl dg) ?_;refine u1 0 (lS (cs:=[_,_]) rfl) ?_;refine uF rfl (nn _ e1.rep e1.num) ?_;rintro e w ⟨rfl,hT⟩;replace O:Sat _ _ _:=O.ag hT;clear hT;generalize h5:(dK e1.rep e1.num)=bb;cases bb
 ·refine uO 19 ?_;refine aY ?_;refine⟨?_,O.nil⟩;unfold fM;rw[h5];rfl
 ·refine uO 1 ?_;refine u1 0 (aa rfl lQ) ?_;refine u1 0 (ld rfl) ?_;refine iV rfl (ft _ e1.cM) ?_;rintro e w ⟨rfl,hT⟩;replace O:Sat _ _ _:=O.ag hT;clear hT;generalize h9:(lE e1.cM)=bb;cases bb
  ·refine uO 15 ?_;refine aY ?_;refine⟨?_,O.nil⟩;unfold fM;rw[h5,h9];rfl
  ·refine uO 2 ?_;refine u1 0 (aa rfl jL) ?_;refine u1 0 (ld rfl) ?_;refine aJ 0 0 (dF rfl rfl) ?_ ?_
   ·intro h14;refine uO 2 ?_;refine u1 0 (aa rfl jL) ?_;refine u1 0 (ld rfl) ?_;refine u1 5 (dD rfl rfl) ?_;refine aY ?_;refine⟨?_,O.nil⟩;unfold fM;rw[h5,h9]
    congr 2
    rw[Bool.eq_iff_iff];simp;omega
   ·intro h14;refine uO 10 ?_;refine aY ?_;refine⟨?_,O.nil⟩;unfold fM;rw[h5,h9]
    congr 2
    rw[Bool.eq_iff_iff];simp;omega
theorem jr (W:World)(A:Option Addr)(c:Nat)(xs:List aS)(hR:iz W A c xs)(hl:xs.length≤1000000000000):Calls Tryz.prog 120 #[.slice A (xs).length c] W fun e w'=>e=.returned (.int .i64 (if bP xs=true then 0 else 1))∧Sat W w' []:=by
 refine bS Tryz.func120 [0] ?_;have O:=Sat.start W;refine uC 9 ?_;refine u1 4 (ak rfl bC) ?_;intro a I;refine wp_loop_ghost (fun (mm:Nat) a w=>∃(i:Nat),Ag a 32 [(0,.slice A (xs).length c),(5,.slice A (xs).length c),(6,.int .i64 ((xs.length:Nat):Int)),(7,.int .i64 ((i:Nat):Int))]∧Sat W w ([])∧(i≤xs.length)∧(∀j x,j<i→xs[j]?=some x→eY (ahead none xs j) x=true)∧mm=xs.length-i) xs.length ?_ ?_
 ·replace I:=I.kp [0,5,6,7] rfl;exact⟨0,I,O,(by omega),(by intro j x hj;omega),by omega⟩
 intro m a w hI;clear O I;obtain⟨i,I,O,hi,he,rfl⟩:=hI;refine rC 2 I ?_;clear I a;refine aJ 0 0 (aq rfl rfl) ?_ ?_
 ·intro h8;refine uO 11 ?_;obtain⟨A_p,rfl⟩:∃q,A=some q:=(hR.sat O).au (by omega);obtain⟨x,hx⟩:∃zz_,xs[i]?=some zz_:=⟨_,List.getElem?_eq_getElem (by omega)⟩;refine u1 0 (ix rfl rfl bC dH) ?_;refine u1 0 (aG (cs:=lG x) rfl ry dH (fun j u e=>bQ (hR.sat O) (de hx j u e))) ?_;refine uN EU O ?_;clear O;intro b4 w O;refine uO 1 ?_;refine uW (vs:=[_,_,_,_]) (cs':=[_,_,_,_]) rfl rfl dH O ?_;clear O;intro w O;refine uO 3 ?_;intro a I;refine bf [15] O (by kernel_rfl) ?_;replace O:=O.drew;refine X1 0 [] I rfl (by exact⟨[],O⟩) (fun w hT=>have O:=hT.sat;(aG (cs:=[_,_,_,_]) (I.ev rfl) ry dH (by exact O.ao (xs:=[_,_,_,_]) rfl))) ?_;clear I a;intro a I;refine aE 1 (by kernel_rfl) ?_;refine eF I rfl rfl H4 rfl (so _ x) ?_
  clear I a;rintro e w ⟨rfl,hT⟩;replace O:Sat _ _ _:=O.ag hT;clear hT;refine⟨_,rfl,?_⟩;intro a I;refine⟨.inr fun _=>(by exact⟨[],O⟩),?_⟩;refine K.zh 2 I pk rfl rfl rfl rfl (by kernel_rfl) (by kernel_rfl) (by kernel_rfl) (fun w=>(aD (I.ev rfl) (I.ev rfl))) ?_ ?_
  ·clear I a;intro h14;refine uX [3,4,5,6,7,8,9,10,11,12,13,14,15,16,17,18] ?_;intro a I;refine ah (by kernel_rfl) ?_ _;refine rE 13 I ?_;clear I a;refine aY ?_;have hok:fM x=false:=by rw[←jR];simpa using h14
   have hst:eY (ahead none xs i) x=false:=by unfold eY;rw[hok];rfl
   have hf:bP xs=false:=dN hx hst;exact⟨by simp[hf],O.nil⟩
  ·clear I a;intro h14;refine uX [3,4] ?_;intro a I;refine K.DE 5 I pk rfl (aT I rfl rfl rfl) rfl rfl (by kernel_rfl) (by kernel_rfl) (by kernel_rfl) (fun w=>(cG (I.ev rfl) (I.ev rfl))) ?_ ?_
   ·clear I a;intro h17;refine uX [6,7,8] ?_;refine bF 9 [] rfl (fun w=>(aw (sb rfl rfl) (show _=Value.int .i64 ((i-1:Nat):Int) from congrArg (Value.int .i64) (by omega)))) ?_;obtain⟨y,hy⟩:∃zz_,xs[i-1]?=some zz_:=⟨_,List.getElem?_eq_getElem (by omega)⟩;refine bF 10 [] rfl (fun w=>(ix rfl rfl bC dH)) ?_;refine bF 11 [] rfl (fun w=>(aC rfl dg)) ?_;refine cZ 12 [] rfl (by exact⟨[],O⟩) (fun w hT=>have O:=hT.sat;(aG (cs:=[.int .i64 y.rep,.int .i64 y.num]) rfl oo gT (fun j u e=>me (hR.sat O) (de hy _ u (jJ y j u e))))) ?_;refine bF 13 [] rfl (fun w=>(aa rfl dg)) ?_;refine cZ 14 [] rfl (by exact⟨[],O⟩) (fun w hT=>have O:=hT.sat;(lS (cs:=[_,_]) rfl)) ?_;intro a I;refine aE 15 (by kernel_rfl) ?_;refine Fb I rfl (aT I rfl rfl rfl) rfl IV rfl (xI _ y x) ?_
    clear I a;rintro e w ⟨rfl,hT⟩;replace O:Sat _ _ _:=O.ag hT;clear hT;refine⟨_,rfl,?_⟩;intro a I;refine⟨.inl rfl,?_⟩;refine K.D7 16 I pk rfl (aT I rfl rfl rfl) rfl rfl (by kernel_rfl) (by kernel_rfl) (by kernel_rfl) (fun w=>(aB (I.ev rfl))) ?_ ?_
    ·clear I a;intro h28;intro a I;simp only[Bool.not_eq_true']at h28;refine rX [17,18] I ?_;clear I a;intro a I;refine ah (by kernel_rfl) ?_ _;refine rE 13 I ?_;clear I a;refine aY ?_;have hok:fM x=true:=by rw[←jR];simpa using h14
     have hst:eY (ahead none xs i) x=false:=by
      unfold eY ahead;rw[if_neg (by omega),hy,hok];simpa using h28
     have hf:bP xs=false:=dN hx hst;exact⟨by simp[hf],O.nil⟩
    ·clear I a;intro h28;intro a I;simp only[Bool.not_eq_false']at h28;refine rX [17,18] I ?_;clear I a;intro a I;refine ah (by kernel_rfl) ?_ _;refine rE 6 I ?_;clear I a;refine u1 2 (ad rfl rfl) ?_;intro a I;replace I:=I.kp [0,5,6,7] rfl;have hok:fM x=true:=by rw[←jR];simpa using h14
     have hst:eY (ahead none xs i) x=true:=by
      unfold eY ahead;rw[if_neg (by omega),hy,hok];simpa using h28
     exact⟨xs.length-(i+1),by omega,i+1,I,O.nil,by omega,fun j z hj hz=>(by rcases Nat.lt_or_ge j i with h | h;exact he j z h hz;obtain rfl:j=i:=(by omega);rw[hx]at hz;cases hz;exact hst),rfl⟩
   ·clear I a;intro h17;refine uX [6,7,8,9,10,11,12,13,14,15,16,17,18] ?_;intro a I;refine ah (by kernel_rfl) ?_ _;refine rE 6 I ?_;clear I a;refine u1 2 (ad rfl rfl) ?_;intro a I;replace I:=I.kp [0,5,6,7] rfl;have hok:fM x=true:=by rw[←jR];simpa using h14
    have hst:eY (ahead none xs i) x=true:=by
     obtain rfl:i=0:=by omega
     unfold eY ahead;rw[hok];rfl
    exact⟨xs.length-(i+1),by omega,i+1,I,O.nil,by omega,fun j z hj hz=>(by rcases Nat.lt_or_ge j i with h | h;exact he j z h hz;obtain rfl:j=i:=(by omega);rw[hx]at hz;cases hz;exact hst),rfl⟩
 ·intro h8;refine uO 15 ?_;refine aY ?_;obtain rfl:i=xs.length:=by omega
  have hf:bP xs=true:=di fun j x hx=>he j x (List.getElem?_eq_some_iff.1 hx).1 hx
  exact⟨by simp[hf],O.nil⟩
theorem wu (W:World)(A:Option Addr)(c:Nat)(xs:List aS)(hR:iz W A c xs)(hl:xs.length≤1000000000000):Calls Tryz.prog 179 #[.slice A (xs).length c] W fun e w'=>e=.returned (.int .i64 (if bP xs=true then 0 else 1))∧Sat W w' []:=by
 refine bS Tryz.func179 [0] ?_;have O:=Sat.start W;refine uC 12 ?_;intro a I;refine wp_loop_ghost (fun (mm:Nat) a w=>∃(i:Nat),Ag a 33 [(0,.slice A (xs).length c),(3,.int .i64 ((i:Nat):Int))]∧Sat W w ([])∧(i≤xs.length)∧(∀j x,j<i→xs[j]?=some x→eY (ahead none xs j) x=true)∧mm=xs.length-i) xs.length ?_ ?_
 ·replace I:=I.kp [0,3] rfl;exact⟨0,I,O,(by omega),(by intro j x hj;omega),by omega⟩
 intro m a w hI;clear O I;obtain⟨i,I,O,hi,he,rfl⟩:=hI;refine rC 5 I ?_;clear I a;refine u1 0 (ak rfl bC) ?_;refine aJ 0 0 (aq rfl rfl) ?_ ?_
 ·intro h7;refine uO 12 ?_;obtain⟨A_p,rfl⟩:∃q,A=some q:=(hR.sat O).au (by omega);obtain⟨x,hx⟩:∃zz_,xs[i]?=some zz_:=⟨_,List.getElem?_eq_getElem (by omega)⟩;refine u1 0 (ix rfl rfl bC dH) ?_;refine u1 0 (aG (cs:=lG x) rfl ry dH (fun j u e=>bQ (hR.sat O) (de hx j u e))) ?_;refine uF rfl (qP _ x) ?_;rintro e w ⟨rfl,hT⟩;replace O:Sat _ _ _:=O.ag hT;clear hT;refine aJ 0 0 (aD rfl rfl) ?_ ?_
  ·intro h15;refine uO 15 ?_;refine aY ?_;have hok:fM x=false:=by rw[←jR];simpa using h15
   have hst:eY (ahead none xs i) x=false:=by unfold eY;rw[hok];rfl
   have hf:bP xs=false:=dN hx hst;exact⟨by simp[hf],O.nil⟩
  ·intro h15;refine uO 6 ?_;intro a I;refine bf [14] O (by kernel_rfl) ?_;replace O:=O.drew;refine rX [0] I ?_;clear I a;intro a I;refine K.zh 1 I pk rfl rfl rfl rfl (by kernel_rfl) (by kernel_rfl) (by kernel_rfl) (fun w=>(cG (I.ev rfl) (I.ev rfl))) ?_ ?_
   ·clear I a;intro h17;refine uX [2,3,4] ?_;refine bF 5 [] rfl (fun w=>(aw (sb rfl rfl) (show _=Value.int .i64 ((i-1:Nat):Int) from congrArg (Value.int .i64) (by omega)))) ?_;obtain⟨y,hy⟩:∃zz_,xs[i-1]?=some zz_:=⟨_,List.getElem?_eq_getElem (by omega)⟩
    refine bF 6 [] rfl (fun w=>(ix rfl rfl bC dH)) ?_;refine bF 7 [] rfl (fun w=>(aC rfl dg)) ?_;refine cZ 8 [9,10] rfl (by exact⟨[],O⟩) (fun w hT=>have O:=hT.sat;(aG (cs:=[.int .i64 y.rep,.int .i64 y.num]) rfl oo gT (fun j u e=>me (hR.sat O) (de hy _ u (jJ y j u e))))) ?_;refine bF 11 [] rfl (fun w=>(ix rfl rfl bC dH)) ?_;refine bF 12 [] rfl (fun w=>(aC rfl dg)) ?_;refine cZ 13 [] rfl (by exact⟨[],O⟩) (fun w hT=>have O:=hT.sat;(aG (cs:=[.int .i64 x.rep,.int .i64 x.num]) rfl oo gT (fun j u e=>me (hR.sat O) (de hx _ u (jJ x j u e))))) ?_;intro a I;refine aE 14 (by kernel_rfl) ?_;refine Fb I rfl (aT I rfl rfl rfl) rfl Ik rfl (yp _ y x) ?_;clear I a;rintro e w ⟨rfl,hT⟩;replace O:Sat _ _ _:=O.ag hT;clear hT;refine⟨_,rfl,?_⟩;intro a I
    refine⟨.inl rfl,?_⟩;refine K.D7 15 I pk rfl (aT I rfl rfl rfl) rfl rfl (by kernel_rfl) (by kernel_rfl) (by kernel_rfl) (fun w=>(aB (I.ev rfl))) ?_ ?_
    ·clear I a;intro h31;intro a I;simp only[Bool.not_eq_true']at h31;refine rX [16] I ?_;clear I a;intro a I;refine ah (by kernel_rfl) ?_ _;refine rE 13 I ?_;clear I a;refine aY ?_;have hok:fM x=true:=by rw[←jR];simpa using h15
     have hst:eY (ahead none xs i) x=false:=by
      unfold eY ahead;rw[if_neg (by omega),hy,hok];simpa using h31
     have hf:bP xs=false:=dN hx hst;exact⟨by simp[hf],O.nil⟩
    ·clear I a;intro h31;intro a I;simp only[Bool.not_eq_false']at h31;refine rX [16] I ?_;clear I a;intro a I;refine ah (by kernel_rfl) ?_ _;refine rE 7 I ?_;clear I a;refine u1 2 (ad rfl rfl) ?_;intro a I;replace I:=I.kp [0,3] rfl;have hok:fM x=true:=by rw[←jR];simpa using h15
     have hst:eY (ahead none xs i) x=true:=by
      unfold eY ahead;rw[if_neg (by omega),hy,hok];simpa using h31
     exact⟨xs.length-(i+1),by omega,i+1,I,O.nil,by omega,fun j z hj hz=>(by rcases Nat.lt_or_ge j i with h | h;exact he j z h hz;obtain rfl:j=i:=(by omega);rw[hx]at hz;cases hz;exact hst),rfl⟩
   ·clear I a;intro h17;refine uX [2,3,4,5,6,7,8,9,10,11,12,13,14,15,16] ?_;intro a I;refine ah (by kernel_rfl) ?_ _;refine rE 7 I ?_;clear I a;refine u1 2 (ad rfl rfl) ?_;intro a I;replace I:=I.kp [0,3] rfl;have hok:fM x=true:=by rw[←jR];simpa using h15
    have hst:eY (ahead none xs i) x=true:=by
     obtain rfl:i=0:=by omega
     unfold eY ahead;rw[hok];rfl
    exact⟨xs.length-(i+1),by omega,i+1,I,O.nil,by omega,fun j z hj hz=>(by rcases Nat.lt_or_ge j i with h | h;exact he j z h hz;obtain rfl:j=i:=(by omega);rw[hx]at hz;cases hz;exact hst),rfl⟩
 ·intro h7;refine uO 14 ?_;refine aY ?_;obtain rfl:i=xs.length:=by omega
  have hf:bP xs=true:=di fun j x hx=>he j x (List.getElem?_eq_some_iff.1 hx).1 hx
  exact⟨by simp[hf],O.nil⟩
theorem lp (W:World)(A:Option Addr)(c:Nat)(xs:List aS)(hR:iz W A c xs)(hl:xs.length≤1000000000000):Calls Tryz.prog 230 #[.slice A (xs).length c] W fun e w'=>e=.returned (.bool (bP xs))∧Sat W w' []:=by
 refine bS Tryz.func230 [0] ?_;have O:=Sat.start W;refine uC 12 ?_;intro a I;refine wp_loop_ghost (fun (mm:Nat) a w=>∃(i:Nat),Ag a 59 [(0,.slice A (xs).length c),(3,.int .i64 ((i:Nat):Int))]∧Sat W w ([])∧(i≤xs.length)∧(∀j x,j<i→xs[j]?=some x→eY (ahead none xs j) x=true)∧mm=xs.length-i) xs.length ?_ ?_
 ·replace I:=I.kp [0,3] rfl;exact⟨0,I,O,(by omega),(by intro j x hj;omega),by omega⟩
 intro m a w hI;clear O I;obtain⟨i,I,O,hi,he,rfl⟩:=hI;refine rC 5 I ?_;clear I a;refine u1 0 (ak rfl bC) ?_;refine aJ 0 0 (aq rfl rfl) ?_ ?_
 ·intro h7;refine uO 12 ?_;obtain⟨A_p,rfl⟩:∃q,A=some q:=(hR.sat O).au (by omega);obtain⟨x,hx⟩:∃zz_,xs[i]?=some zz_:=⟨_,List.getElem?_eq_getElem (by omega)⟩;refine u1 0 (ix rfl rfl bC dH) ?_;refine u1 0 (aC rfl dg) ?_;refine u1 0 (aG (cs:=[.int .i64 x.rep,.int .i64 x.num]) rfl oo gT (fun j u e=>me (hR.sat O) (de hx _ u (jJ x j u e)))) ?_;refine uF rfl (nn _ x.rep x.num) ?_;rintro e w ⟨rfl,hT⟩;replace O:Sat _ _ _:=O.ag hT;clear hT;generalize h15:(dK x.rep x.num)=bb;cases bb
  ·refine u1 40 (aB rfl) ?_;refine aY ?_
   have hok:fM x=false:=by
    unfold fM;rw[h15];rfl
   have hst:eY (ahead none xs i) x=false:=by unfold eY;rw[hok];rfl
   have hf:bP xs=false:=dN hx hst;exact⟨by simp[hf],O.nil⟩
  ·refine u1 3 (aB rfl) ?_;refine u1 0 (ix rfl rfl bC dH) ?_;refine u1 0 (aC rfl lQ) ?_;refine u1 0 (an rfl Fa (bQ (hR.sat O) (de hx 2 _ rfl))) ?_;refine iV rfl (ft _ x.cM) ?_;rintro e w ⟨rfl,hT⟩;replace O:Sat _ _ _:=O.ag hT;clear hT;generalize h23:(lE x.cM)=bb;cases bb
   ·refine u1 32 (aB rfl) ?_;refine aY ?_
    have hok:fM x=false:=by
     unfold fM;rw[h15,h23];rfl
    have hst:eY (ahead none xs i) x=false:=by unfold eY;rw[hok];rfl
    have hf:bP xs=false:=dN hx hst;exact⟨by simp[hf],O.nil⟩
   ·refine u1 4 (aB rfl) ?_;refine u1 0 (ix rfl rfl bC dH) ?_;refine u1 0 (aC rfl jL) ?_;refine u1 0 (an rfl dA (bQ (hR.sat O) (de hx 3 _ rfl))) ?_;refine aJ 0 0 (aq rfl rfl) ?_ ?_
    ·intro h32;refine uO 24 ?_;refine aY ?_
     have hok:fM x=false:=by
      unfold fM;rw[h15,h23];simp<;>omega
     have hst:eY (ahead none xs i) x=false:=by unfold eY;rw[hok];rfl
     have hf:bP xs=false:=dN hx hst;exact⟨by simp[hf],O.nil⟩
    ·intro h32;refine uO 4 ?_;refine u1 0 (ix rfl rfl bC dH) ?_;refine u1 0 (aC rfl jL) ?_;refine u1 0 (an rfl dA (bQ (hR.sat O) (de hx 3 _ rfl))) ?_;refine aJ 0 0 (cG rfl rfl) ?_ ?_
     ·intro h40;refine uO 16 ?_;refine aY ?_
      have hok:fM x=false:=by
       unfold fM;rw[h15,h23];simp<;>omega
      have hst:eY (ahead none xs i) x=false:=by unfold eY;rw[hok];rfl
      have hf:bP xs=false:=dN hx hst;exact⟨by simp[hf],O.nil⟩
     ·intro h40;refine uO 7 ?_;intro a I;refine bf [14] O (by kernel_rfl) ?_;replace O:=O.drew;refine rX [0] I ?_;clear I a;intro a I;refine K.zh 1 I pk rfl rfl rfl rfl (by kernel_rfl) (by kernel_rfl) (by kernel_rfl) (fun w=>(cG (I.ev rfl) (I.ev rfl))) ?_ ?_
      ·clear I a;intro h43;refine uX [2,3,4] ?_;refine bF 5 [] rfl (fun w=>(aw (sb rfl rfl) (show _=Value.int .i64 ((i-1:Nat):Int) from congrArg (Value.int .i64) (by omega)))) ?_;obtain⟨y,hy⟩:∃zz_,xs[i-1]?=some zz_:=⟨_,List.getElem?_eq_getElem (by omega)⟩
       refine bF 6 [] rfl (fun w=>(ix rfl rfl bC dH)) ?_;refine bF 7 [] rfl (fun w=>(aC rfl dg)) ?_;refine cZ 8 [9,10] rfl (by exact⟨[],O⟩) (fun w hT=>have O:=hT.sat;(aG (cs:=[.int .i64 y.rep,.int .i64 y.num]) rfl oo gT (fun j u e=>me (hR.sat O) (de hy _ u (jJ y j u e))))) ?_;refine bF 11 [] rfl (fun w=>(ix rfl rfl bC dH)) ?_;refine bF 12 [] rfl (fun w=>(aC rfl dg)) ?_;refine cZ 13 [] rfl (by exact⟨[],O⟩) (fun w hT=>have O:=hT.sat;(aG (cs:=[.int .i64 x.rep,.int .i64 x.num]) rfl oo gT (fun j u e=>me (hR.sat O) (de hx _ u (jJ x j u e))))) ?_;intro a I;refine aE 14 (by kernel_rfl) ?_;refine Fb I rfl (aT I rfl rfl rfl) rfl Ip rfl (yC _ y x) ?_;clear I a;rintro e w ⟨rfl,hT⟩;replace O:Sat _ _ _:=O.ag hT;clear hT;refine⟨_,rfl,?_⟩;intro a I
       refine⟨.inl rfl,?_⟩;refine K.D7 15 I pk rfl (aT I rfl rfl rfl) rfl rfl (by kernel_rfl) (by kernel_rfl) (by kernel_rfl) (fun w=>(aB (I.ev rfl))) ?_ ?_
       ·clear I a;intro h57;intro a I;simp only[Bool.not_eq_true']at h57;refine rX [16] I ?_;clear I a;intro a I;refine ah (by kernel_rfl) ?_ _;refine rE 13 I ?_;clear I a;refine aY ?_
        have hok:fM x=true:=by
         unfold fM;rw[h15,h23];simp<;>omega
        have hst:eY (ahead none xs i) x=false:=by
         unfold eY ahead;rw[if_neg (by omega),hy,hok];simpa using h57
        have hf:bP xs=false:=dN hx hst;exact⟨by simp[hf],O.nil⟩
       ·clear I a;intro h57;intro a I;simp only[Bool.not_eq_false']at h57;refine rX [16] I ?_;clear I a;intro a I;refine ah (by kernel_rfl) ?_ _;refine rE 7 I ?_;clear I a;refine u1 2 (ad rfl rfl) ?_;intro a I;replace I:=I.kp [0,3] rfl
        have hok:fM x=true:=by
         unfold fM;rw[h15,h23];simp<;>omega
        have hst:eY (ahead none xs i) x=true:=by
         unfold eY ahead;rw[if_neg (by omega),hy,hok];simpa using h57
        exact⟨xs.length-(i+1),by omega,i+1,I,O.nil,by omega,fun j z hj hz=>(by rcases Nat.lt_or_ge j i with h | h;exact he j z h hz;obtain rfl:j=i:=(by omega);rw[hx]at hz;cases hz;exact hst),rfl⟩
      ·clear I a;intro h43;refine uX [2,3,4,5,6,7,8,9,10,11,12,13,14,15,16] ?_;intro a I;refine ah (by kernel_rfl) ?_ _;refine rE 7 I ?_;clear I a;refine u1 2 (ad rfl rfl) ?_;intro a I;replace I:=I.kp [0,3] rfl
       have hok:fM x=true:=by
        unfold fM;rw[h15,h23];simp<;>omega
       have hst:eY (ahead none xs i) x=true:=by
        obtain rfl:i=0:=by omega
        unfold eY ahead;rw[hok];rfl
       exact⟨xs.length-(i+1),by omega,i+1,I,O.nil,by omega,fun j z hj hz=>(by rcases Nat.lt_or_ge j i with h | h;exact he j z h hz;obtain rfl:j=i:=(by omega);rw[hx]at hz;cases hz;exact hst),rfl⟩
 ·intro h7;refine uO 14 ?_;refine aY ?_;obtain rfl:i=xs.length:=by omega
  have hf:bP xs=true:=di fun j x hx=>he j x (List.getElem?_eq_some_iff.1 hx).1 hx
  exact⟨by simp[hf],O.nil⟩
theorem uY (W:World)(A:Option Addr)(c:Nat)(xs:List aS)(hR:iz W A c xs)(hl:xs.length≤1000000000000):Calls Tryz.prog 234 #[.slice A (xs).length c] W fun e w'=>e=.returned (.bool (bP xs))∧Sat W w' []:=by
 refine bS Tryz.func234 [0] ?_;have O:=Sat.start W;refine uC 12 ?_;intro a I;refine wp_loop_ghost (fun (mm:Nat) a w=>∃(i:Nat),Ag a 35 [(0,.slice A (xs).length c),(3,.int .i64 ((i:Nat):Int))]∧Sat W w ([])∧(i≤xs.length)∧(∀j x,j<i→xs[j]?=some x→eY (ahead none xs j) x=true)∧mm=xs.length-i) xs.length ?_ ?_
 ·replace I:=I.kp [0,3] rfl;exact⟨0,I,O,(by omega),(by intro j x hj;omega),by omega⟩
 intro m a w hI;clear O I;obtain⟨i,I,O,hi,he,rfl⟩:=hI;refine rC 5 I ?_;clear I a;refine u1 0 (ak rfl bC) ?_;refine aJ 0 0 (aq rfl rfl) ?_ ?_
 ·intro h7;refine uO 8 ?_;intro a I;refine bf [21] O (by kernel_rfl) ?_;replace O:=O.drew;refine rX [0,1] I ?_;clear I a;obtain⟨A_p,rfl⟩:∃q,A=some q:=(hR.sat O).au (by omega);obtain⟨x,hx⟩:∃zz_,xs[i]?=some zz_:=⟨_,List.getElem?_eq_getElem (by omega)⟩;refine bF 2 [] rfl (fun w=>(ix rfl rfl bC dH)) ?_;refine cZ 3 [] rfl (by exact⟨[],O⟩) (fun w hT=>have O:=hT.sat;(aG (cs:=lG x) rfl ry dH (fun j u e=>bQ (hR.sat O) (de hx j u e)))) ?_;intro a I;refine aE 4 (by kernel_rfl) ?_;refine eF I rfl rfl Iy rfl (xM _ x) ?_;clear I a;rintro e w ⟨rfl,hT⟩;replace O:Sat _ _ _:=O.ag hT;clear hT;refine⟨_,rfl,?_⟩;intro a I;refine⟨.inr fun _=>(by exact⟨[],O⟩),?_⟩;refine K.Kl 5 I pk rfl rfl rfl rfl (by kernel_rfl) (by kernel_rfl) (by kernel_rfl) (fun w=>(aB (I.ev rfl))) ?_ ?_
  ·clear I a;intro h15;intro a I;simp only[Bool.not_eq_true']at h15;refine rX [6,7,8,9,10,11,12,13,14,15,16,17,18,19,20,21,22,23,24] I ?_;clear I a;intro a I;refine ah (by kernel_rfl) ?_ _;refine rE 13 I ?_;clear I a;refine aY ?_;have hok:fM x=false:=by simpa using h15
   have hst:eY (ahead none xs i) x=false:=by unfold eY;rw[hok];rfl
   have hf:bP xs=false:=dN hx hst;exact⟨by simp[hf],O.nil⟩
  ·clear I a;intro h15;intro a I;simp only[Bool.not_eq_false']at h15;refine rX [6,7] I ?_;clear I a;intro a I;refine K.DE 8 I pk rfl (aT I rfl rfl rfl) rfl rfl (by kernel_rfl) (by kernel_rfl) (by kernel_rfl) (fun w=>(cG (I.ev rfl) (I.ev rfl))) ?_ ?_
   ·clear I a;intro h18;refine uX [9,10,11] ?_;refine bF 12 [] rfl (fun w=>(aw (sb rfl rfl) (show _=Value.int .i64 ((i-1:Nat):Int) from congrArg (Value.int .i64) (by omega)))) ?_;obtain⟨y,hy⟩:∃zz_,xs[i-1]?=some zz_:=⟨_,List.getElem?_eq_getElem (by omega)⟩
    refine bF 13 [] rfl (fun w=>(ix rfl rfl bC dH)) ?_;refine bF 14 [] rfl (fun w=>(aC rfl dg)) ?_;refine cZ 15 [16,17] rfl (by exact⟨[],O⟩) (fun w hT=>have O:=hT.sat;(aG (cs:=[.int .i64 y.rep,.int .i64 y.num]) rfl oo gT (fun j u e=>me (hR.sat O) (de hy _ u (jJ y j u e))))) ?_;refine bF 18 [] rfl (fun w=>(ix rfl rfl bC dH)) ?_;refine bF 19 [] rfl (fun w=>(aC rfl dg)) ?_;refine cZ 20 [] rfl (by exact⟨[],O⟩) (fun w hT=>have O:=hT.sat;(aG (cs:=[.int .i64 x.rep,.int .i64 x.num]) rfl oo gT (fun j u e=>me (hR.sat O) (de hx _ u (jJ x j u e))))) ?_;intro a I;refine aE 21 (by kernel_rfl) ?_;refine Fb I rfl (aT I rfl rfl rfl) rfl IS rfl (wx _ y x) ?_;clear I a;rintro e w ⟨rfl,hT⟩;replace O:Sat _ _ _:=O.ag hT;clear hT;refine⟨_,rfl,?_⟩;intro a I
    refine⟨.inl rfl,?_⟩;refine K.D7 22 I pk rfl (aT I rfl rfl rfl) rfl rfl (by kernel_rfl) (by kernel_rfl) (by kernel_rfl) (fun w=>(aB (I.ev rfl))) ?_ ?_
    ·clear I a;intro h32;intro a I;simp only[Bool.not_eq_true']at h32;refine rX [23,24] I ?_;clear I a;intro a I;refine ah (by kernel_rfl) ?_ _;refine rE 13 I ?_;clear I a;refine aY ?_;have hok:fM x=true:=by simpa using h15
     have hst:eY (ahead none xs i) x=false:=by
      unfold eY ahead;rw[if_neg (by omega),hy,hok];simpa using h32
     have hf:bP xs=false:=dN hx hst;exact⟨by simp[hf],O.nil⟩
    ·clear I a;intro h32;intro a I;simp only[Bool.not_eq_false']at h32;refine rX [23,24] I ?_;clear I a;intro a I;refine ah (by kernel_rfl) ?_ _;refine rE 7 I ?_;clear I a;refine u1 2 (ad rfl rfl) ?_;intro a I;replace I:=I.kp [0,3] rfl;have hok:fM x=true:=by simpa using h15
     have hst:eY (ahead none xs i) x=true:=by
      unfold eY ahead;rw[if_neg (by omega),hy,hok];simpa using h32
     exact⟨xs.length-(i+1),by omega,i+1,I,O.nil,by omega,fun j z hj hz=>(by rcases Nat.lt_or_ge j i with h | h;exact he j z h hz;obtain rfl:j=i:=(by omega);rw[hx]at hz;cases hz;exact hst),rfl⟩
   ·clear I a;intro h18;refine uX [9,10,11,12,13,14,15,16,17,18,19,20,21,22,23,24] ?_;intro a I;refine ah (by kernel_rfl) ?_ _;refine rE 7 I ?_;clear I a;refine u1 2 (ad rfl rfl) ?_;intro a I;replace I:=I.kp [0,3] rfl;have hok:fM x=true:=by simpa using h15
    have hst:eY (ahead none xs i) x=true:=by
     obtain rfl:i=0:=by omega
     unfold eY ahead;rw[hok];rfl
    exact⟨xs.length-(i+1),by omega,i+1,I,O.nil,by omega,fun j z hj hz=>(by rcases Nat.lt_or_ge j i with h | h;exact he j z h hz;obtain rfl:j=i:=(by omega);rw[hx]at hz;cases hz;exact hst),rfl⟩
 ·intro h7;refine uO 14 ?_;refine aY ?_;obtain rfl:i=xs.length:=by omega
  have hf:bP xs=true:=di fun j x hx=>he j x (List.getElem?_eq_some_iff.1 hx).1 hx
  exact⟨by simp[hf],O.nil⟩
end Go.Proofs.YtkjabaihpkbfhaaGreat.Wk
namespace Go.Proofs.YtkjabaihpkbfhaaGreat.K
open Go Go.RowKit
variable {ds:List Deferred}
theorem vm (zc:List Value)(h:0<zc.length):∀n:Nat,(List.range (n * zc.length)).map (fun i=>zc.toArray[i % zc.length]!)=(List.replicate n zc).flatten
 | 0=>by simp
 | n + 1 => by
   have hp:(List.range zc.length).map (fun i=>zc.toArray[i % zc.length]!)=zc:=by
    apply List.ext_getElem?;intro i;rw[List.getElem?_map];rcases Nat.lt_or_ge i zc.length with hi | hi
    ·
     rw[List.getElem?_range hi,List.getElem?_eq_getElem hi];simp[Nat.mod_eq_of_lt hi,hi]
    ·
     rw[List.getElem?_eq_none (by simpa using hi),List.getElem?_eq_none hi];rfl
   rw[Nat.add_mul,Nat.one_mul,Nat.add_comm (n * zc.length),List.range_add,List.map_append,hp,List.map_map];rw[show ((fun i=>zc.toArray[i % zc.length]!) ∘ fun x=>zc.length+x)=fun i=>zc.toArray[i % zc.length]! from by funext i;simp];rw[vm zc h n,List.replicate_succ,List.flatten_cons]
section
variable {P:Program} {w:World} {ρ:Operand→Value} {dd:Option Tmp} {ty:TypeId} {ps:String} {af:Array Edge} {g:Option (Nat×Bool)} {e t:TypeId} {x y:Operand}
theorem Ei {z:Value}{zc:List Value}{by_ sz n:Nat}(hx:ρ x=.int .i64 n)(hy:ρ y=.int .i64 n)(ht:P.underlying t=some (.slice e))(hi:dX P e=some (some z,sz,by_))(hz:z.cells=zc.toArray)(hsz0:zc.length=sz)(hpos:0<sz)(hn:by_ * n≤140737488355328)(hn2:n≤140737488355328) :
 (execOp ρ ⟨dd,.makeSlice t x y,ty,ps,af,g⟩).run P w=.ok (.value (.slice (some ⟨w.heap.size,0,none⟩) n n)) (w.alloc (.cells (List.replicate n zc).flatten.toArray e)):=by
 obtain⟨i,hi',hq⟩:=Option.map_eq_some_iff.1 hi;simp only[Prod.mk.injEq]at hq;obtain⟨hz',hsz,hb⟩:=hq;have hw:IntKind.i64.wrap (n:Int)=n:=gA (by simp[IntKind.min,IntKind.signed,IntKind.bits];try omega) (by simp[IntKind.max,IntKind.signed,IntKind.bits];try omega)
 have h1:¬(281474976710656<(by_:Int) * (n:Int)):=by
  rw[show (by_:Int) * (n:Int)=((by_ * n:Nat):Int) from by simp];omega
 have h3:¬((n:Int)<0):=by omega
 have harr:((Array.range (n * sz)).map fun x=>z.cells[x % z.cells.size]!)=(List.replicate n zc).flatten.toArray:=by
  have:=vm zc (by omega) n;apply Array.ext';rw[←this,hz,←hsz0];simp
 have hN:∃N:Int,N=(n:Int):=⟨_,rfl⟩;obtain⟨N,hN⟩:=hN;have hNn:N.toNat=n:=by omega
 rw[←hN]at hx hy hw h1 h3;have h4:¬(n * by_ > 140737488355328):=by rw[Nat.mul_comm];omega
 simp[execOp,hx,hy,Instr.makeSlice,run_underlying ht,asInt,typeInfo,sizeOf,zeroValue,hi',hsz,hb,hz',hw,h1,h3,hNn,askRoom,roomBytes,newRow,newObj,Sem.run,go_sem]
 by_cases h0:n=0
 ·
  subst h0;rw[if_pos (Nat.zero_mul _)]
  congr 2
  rw[Nat.zero_mul];simp
 ·
  rw[if_neg (Nat.mul_ne_zero h0 (by omega))]
  congr 1
  show w.alloc (.cells (Array.map (fun x=>z.cells[x % z.cells.size]!) (Array.range (n * sz))) e)=_;rw[harr]
end
section
variable {P:Program} {ops:Array Oper} {a:Act} {n:Nat} {E:Env} {w W:World} {rest:List Oper} {d:Nat} {Q:Exit→Act→World→Prop} {L:List As} {e t:TypeId} {ty:TypeId} {ps:String} {af:Array Edge} {x y:Operand}
theorem J2 {z:Value}{zc:List Value}{by_ m sz:Nat}(I:Ag a n E ds)(hn:Nat.blt d n=true)(hx:fE E x=some (.int .i64 m))(hy:fE E y=some (.int .i64 m))(ht:P.underlying t=some (.slice e))(hi:dX P e=some (some z,sz,by_))(hz:z.cells=zc.toArray)(hsz0:zc.length=sz)(hpos:0<sz)(h1:by_ * m≤140737488355328)(h2:m≤140737488355328)
 (s:Sat W w L) (k:∀b w',Sat W w' (row e sz (.slice (some ⟨b,0,none⟩) m m) m (List.replicate m zc).flatten::L)→∀a',Ag a' n ((d,.slice (some ⟨b,0,none⟩) m m)::E) ds→wpList P ops Q rest a' w'):wpList P ops Q (⟨some d,.makeSlice t x y,ty,ps,af,none⟩::rest) a w:=
 yI I rfl rfl hn (Ei (I.ev hx) (I.ev hy) ht hi hz hsz0 hpos h1 h2) (k _ _ (Sat.Hn (s.alloc _) (by simp[hsz0]) (by omega)))
end
end Go.Proofs.YtkjabaihpkbfhaaGreat.K
namespace Go.Proofs.YtkjabaihpkbfhaaGreat.Wk
open Go Go.RowKit Go.Proofs.YtkjabaihpkbfhaaGreat Go.Proofs.YtkjabaihpkbfhaaGreat.K Go.Proofs.YtkjabaihpkbfhaaGreat.T
theorem Df (xs:List aS):(List.replicate xs.length [Value.int .i64 0,Value.int .i64 0]).flatten=(((xs.take 0).map aS.dot)++List.replicate (xs.length-0) (⟨0,0⟩:gC)).flatMap sA:=by
 rw[List.take_zero,List.map_nil,List.nil_append,Nat.sub_zero,List.flatMap_def,List.map_replicate];rfl
theorem uP {α:Type}{enc:α→List Value}{k:Nat}(hk:∀x,(enc x).length=k):∀ {xs:List α} {i:Nat} (x:α),i<xs.length→(xs.flatMap enc).take (i * k)++enc x++(xs.flatMap enc).drop (i * k+k)=(xs.set i x).flatMap enc
 | [],i,x,h=>by simp at h
 | y :: xs, 0, x, h => by
   rw[List.flatMap_cons,List.set_cons_zero,List.flatMap_cons,Nat.zero_mul,List.take_zero,List.nil_append,Nat.zero_add,List.drop_append,List.drop_of_length_le (by rw[hk];exact Nat.le_refl _),List.nil_append,hk,Nat.sub_self,List.drop_zero]
 | y :: xs, i + 1, x, h => by
   have ih:=uP hk (xs:=xs) (i:=i) x (by simpa using h);have e1:(i+1) * k=k+i * k:=by rw[Nat.add_mul];omega
   rw[List.flatMap_cons,List.set_cons_succ,List.flatMap_cons,←ih,e1,List.take_append,List.drop_append,List.take_of_length_le (by rw[hk];omega),List.drop_of_length_le (by rw[hk];omega),hk,List.nil_append];rw[show k+i * k-k=i * k from by omega,show k+i * k+k-k=i * k+k from by omega];simp only[List.append_assoc]
theorem EX {xs:List aS}{i:Nat}{x:aS}(hx:xs[i]?=some x):((((xs.take i).map aS.dot)++List.replicate (xs.length-i) (⟨0,0⟩:gC)).flatMap sA).take (i * 2)++[Value.int .i64 x.rep,Value.int .i64 x.num]++((((xs.take i).map aS.dot)++List.replicate (xs.length-i) (⟨0,0⟩:gC)).flatMap sA).drop (i * 2+[Value.int .i64 x.rep,Value.int .i64 x.num].length)=(((xs.take (i+1)).map aS.dot)++List.replicate (xs.length-(i+1)) (⟨0,0⟩:gC)).flatMap sA:=by
 have hi:=(List.getElem?_eq_some_iff.1 hx).1;have h:=uP (enc:=sA) (k:=2) uG (xs:=((xs.take i).map aS.dot)++List.replicate (xs.length-i) (⟨0,0⟩:gC)) (i:=i) x.dot (by simp;omega)
 have e:(((xs.take i).map aS.dot)++List.replicate (xs.length-i) (⟨0,0⟩:gC)).set i x.dot=((xs.take (i+1)).map aS.dot)++List.replicate (xs.length-(i+1)) (⟨0,0⟩:gC):=by
  rw[List.set_append_right _ _ (by simp;omega),aF hx,List.map_append,List.append_assoc]
  congr 1
  obtain⟨k,hk⟩:∃k,xs.length-i=k+1:=⟨xs.length-i-1,by omega⟩;rw[hk,show xs.length-(i+1)=k from by omega,List.replicate_succ,List.length_map,List.length_take,show i-min i xs.length=0 from by omega]
  rfl
 rw[←e,←h];rfl
theorem CX (xs:List aS):((xs.take xs.length).map aS.dot)++List.replicate (xs.length-xs.length) (⟨0,0⟩:gC)=xs.map aS.dot:=by simp
theorem Et (b i:Nat):Value.pointer (some ((⟨b,0,none⟩:Addr).add (((i:Nat):Int).toNat * 2)))=Value.pointer (some ⟨b,i * 2,none⟩):=by
 rw[Int.toNat_natCast];simp only[Addr.add,Nat.zero_add]
 split
 ·
  rename_i h;rw[h]
 ·
  rfl
theorem zM (W:World)(A:Option Addr)(c:Nat)(xs:List aS)(hR:iz W A c xs)(hl:xs.length≤10000000000)(hE:bP xs=true):Calls Tryz.prog 252 #[.slice A (xs).length c] W fun e w'=>∃q:PL,e=.returned (.tuple #[.agg #[.slice q.va q.d.vec.length q.vc,.slice q.ca q.d.ab.length q.cc],.int .i64 0])∧q.d=mg (xs.map aS.dot)∧Sat W w' [cq 3 q.va q.vc q.d.vec,bp 219 q.ca q.cc q.d.ab]:=by
 refine bS Tryz.func252 [0] ?_;have O:=Sat.start W;refine uC 2 ?_;refine uN cY O ?_;clear O;intro b2 w O;refine uO 7 ?_;refine uF rfl (jr _ A c xs (hR.sat O) (by omega)) ?_;rintro e w ⟨rfl,hT⟩;rw[if_pos hE];replace O:Sat _ _ _:=O.ag hT;clear hT;refine u1 8 (dz (aD rfl rfl) (by omega)) ?_;refine u1 0 (ak rfl bC) ?_;intro a I;refine J2 (zc:=[_,_]) I rfl rfl rfl oh Fe rfl rfl (by decide) (by omega) (by omega) O ?_;clear I a O;intro b13 w O;refine uO 7 ?_;refine u1 4 (ak rfl bC) ?_;intro a I
 refine wp_loop_ghost (fun (mm:Nat) a w=>∃(i:Nat),Ag a 29 [(2,.pointer (some ⟨b2,0,none⟩)),(3,.int .i64 0),(4,.slice (some ⟨b13,0,none⟩) xs.length xs.length),(14,.slice A (xs).length c),(15,.int .i64 ((xs.length:Nat):Int)),(16,.int .i64 ((i:Nat):Int))]∧Sat W w ([row 214 2 (.slice (some ⟨b13,0,none⟩) xs.length xs.length) xs.length (((xs.take i).map aS.dot++List.replicate (xs.length-i) (⟨0,0⟩:gC)).flatMap sA),a6 b2 (.cells #[.slice none 0 0,.slice none 0 0] 63)])∧(i≤xs.length)∧mm=xs.length-i) xs.length ?_ ?_
 ·replace I:=I.kp [2,3,4,14,15,16] rfl;rw[Df]at O;exact⟨0,I,O,(by omega),by omega⟩
 intro m a w hI;clear O I;obtain⟨i,I,O,hi,rfl⟩:=hI;refine rC 2 I ?_;clear I a;refine aJ 0 0 (aq rfl rfl) ?_ ?_
 ·intro h17;refine uO 11 ?_;obtain⟨A_p,rfl⟩:∃q,A=some q:=(hR.sat O).au (by omega);obtain⟨x,hx⟩:∃zz_,xs[i]?=some zz_:=⟨_,List.getElem?_eq_getElem (by omega)⟩;refine u1 0 (ix rfl rfl bC dH) ?_;refine u1 0 (aG (cs:=lG x) rfl ry dH (fun j u e=>bQ (hR.sat O) (de hx j u e))) ?_;refine uN EU O ?_;clear O;intro b6 w O;refine uO 1 ?_;refine uW (vs:=[_,_,_,_]) (cs':=[_,_,_,_]) rfl rfl dH O ?_;clear O;intro w O;refine uO 5 ?_;refine u1 0 (aa rfl dg) ?_;refine u1 0 (lS (cs:=[_,_]) rfl) ?_;refine u1 0 (aw (ix rfl rfl oh gT) (show _=Value.pointer (some ⟨b13,i * 2,none⟩) from Et b13 i)) ?_;intro a I;refine G6 (i * 2) (vs:=[_,_]) I rfl (by simp[Addr.add]) rfl gT (by simp[Value.oneCell']) (O.p 1) (by rw[oy uG];simp;omega) ?_;clear O;intro w O;refine rO 4 I ?_;clear I a
  refine u1 2 (ad rfl rfl) ?_;intro a I;replace I:=I.kp [2,3,4,14,15,16] rfl;rw[EX hx]at O;exact⟨xs.length-(i+1),by omega,i+1,I,n5 ((O.p 2).p 1),by omega,rfl⟩
 ·intro h17;obtain rfl:i=xs.length:=by omega
  intro a I;rw[CX]at O;replace O:=fQ O (m:=(xs.map aS.dot).length) (by simp) rfl;rw[show Value.slice (some ⟨b13,0,none⟩) xs.length xs.length=.slice (some ⟨b13,0,none⟩) (xs.map aS.dot).length xs.length from by rw[List.length_map]]at I;refine rO 9 I ?_;clear I a;intro a I;replace I:=I.kp [2,3,4] rfl;refine rC 3 I ?_;clear I a;refine uF rfl (En _ _ _ (xs.map aS.dot) O.rd (by simp;omega)) ?_;rintro e w ⟨q,rfl,hq,hT⟩;replace O:Sat _ _ (_::_::_):=O.ag hT;clear hT;refine uW (vs:=[_,_]) (cs':=[_,_]) rfl rfl aO (O.p 3) ?_;clear O;intro w O;refine uO 4 ?_;intro a I;refine bO I rfl (br (cs:=[_,_]) I rfl cS aO (by exact O.ao (xs:=[_,_]) rfl)) (aQ I rfl) ?_;exact⟨q,rfl,hq,n5 ((O.p 2).p 2)⟩
theorem y3 (W:World)(A:Option Addr)(c:Nat)(xs:List aS)(hR:iz W A c xs)(hl:xs.length≤10000000000):Calls Tryz.prog 237 #[.slice A (xs).length c,.string { data:=#[] },.int .i64 (-1)] W fun e w'=>∃q:PL,e=.returned (.agg #[.slice q.va q.d.vec.length q.vc,.slice q.ca q.d.ab.length q.cc])∧q.d=mg (xs.map aS.dot)∧Sat W w' [cq 3 q.va q.vc q.d.vec,bp 219 q.ca q.cc q.d.ab]:=by
 refine bS Tryz.func237 [0,1,2] ?_;have O:=Sat.start W;refine uC 2 ?_;refine uN cY O ?_;clear O;intro b6 w O;refine uO 14 ?_;intro a I;refine wp_loop_ghost (fun (mm:Nat) a w=>∃(i:Nat) (Ao:Option Addr) (co:Nat),Ag a 50 [(0,.slice A (xs).length c),(1,.string { data:=#[] }),(2,.int .i64 ((-1))),(6,.pointer (some ⟨b6,0,none⟩)),(7,.slice Ao (((xs.take i).map aS.dot)).length co),(8,.int .i64 ((i:Nat):Int))]∧Sat W w ([II 214 Ao co ((xs.take i).map aS.dot),a6 b6 (.cells #[.slice none 0 0,.slice none 0 0] 63)])∧(i≤xs.length)∧mm=xs.length-i) xs.length ?_ ?_
 ·replace I:=I.kp [0,1,2,6,7,8] rfl;exact⟨0,none,0,I,(O.ba 214 2),(by omega),by omega⟩
 intro m a w hI;clear O I;obtain⟨i,Ao,co,I,O,hi,rfl⟩:=hI;refine rC 5 I ?_;clear I a;refine u1 0 (ak rfl bC) ?_;refine aJ 0 0 (aq rfl rfl) ?_ ?_
 ·intro h12;have hcl:((xs.take i).map aS.dot).length≤10000000000:=by rw[List.length_map,List.length_take];omega
  refine uO 10 ?_;refine u1 11 (jl rfl rfl) ?_;refine u1 18 (c5 (aq rfl rfl) (by omega)) ?_;obtain⟨A_p,rfl⟩:∃q,A=some q:=(hR.sat O).au (by omega);obtain⟨x,hx⟩:∃zz_,xs[i]?=some zz_:=⟨_,List.getElem?_eq_getElem (by omega)⟩;refine u1 0 (ix rfl rfl bC dH) ?_;refine u1 0 (aC rfl dg) ?_;refine u1 0 (aG (cs:=[.int .i64 x.rep,.int .i64 x.num]) rfl oo gT (fun j u e=>me (hR.sat O) (de hx _ u (jJ x j u e)))) ?_;intro a I;refine gF (vss:=[[_,_]]) I rfl rfl oh Fe rfl rfl rfl (by simp) rfl O ?_;clear I a O;intro A46 w O;intro a I;refine dq I rfl rfl rfl oh Fe rfl (O.p 1) (O.rd.src oh (by simp[Value.oneCell'])) (by omega) (by omega) ?_;clear I a O;intro A47 c47 w hc47 O;refine uO 6 ?_;refine u1 2 (ad rfl rfl) ?_;intro a I;replace I:=I.kp [0,1,2,6,7,8] rfl
  have ec:(xs.take i).map aS.dot++[x.dot]=(xs.take (i+1)).map aS.dot:=by rw[aF hx,List.map_append];rfl
  have el:((xs.take i).map aS.dot).length+1=((xs.take (i+1)).map aS.dot).length:=by rw[←ec,List.length_append];rfl
  have hS2:=fQ O el (cs':=((xs.take (i+1)).map aS.dot).flatMap sA) (by rw[←ec,List.flatMap_append];rfl);rw[el]at I;exact⟨xs.length-(i+1),by omega,i+1,_,_,I,n5 ((hS2.p 2).p 1),by omega,rfl⟩
 ·intro h12;obtain rfl:i=xs.length:=by omega
  intro a I;rw[List.take_length]at O I;refine rO 11 I ?_;clear I a;refine uF rfl (DO _ _ _ (xs.map aS.dot) O.rd (by simp;omega)) ?_;rintro e w ⟨q,rfl,hq,hT⟩;replace O:Sat _ _ (_::_::_):=O.ag hT;clear hT;refine uW (vs:=[_,_]) (cs':=[_,_]) rfl rfl aO (O.p 3) ?_;clear O;intro w O;refine uO 3 ?_;intro a I;refine fY I rfl (br (cs:=[_,_]) I rfl cS aO (by exact O.ao (xs:=[_,_]) rfl)) ?_;exact⟨q,rfl,hq,n5 ((O.p 2).p 2)⟩
def eZ (r:bK):Bool:=(decide (r.cM={ data:=#[] }) || lE r.cM) && (bg r.bx && !eO r.bx)
def nY (r:bK):Int:=if (decide (r.cM={ data:=#[] }) || lE r.cM)=true then (if (bg r.bx && !eO r.bx)=true then 0 else 1) else 5
theorem jS (r:bK):decide (nY r=0)=eZ r:=by
 unfold nY eZ;cases (decide (r.cM={ data:=#[] }) || lE r.cM)
 ·
  rfl
 ·
  cases (bg r.bx && !eO r.bx)<;>rfl
def gI (a b:bK):Int:=if yJ a.cM b.cM=0 then qv a.bx b.bx else yJ a.cM b.cM
def fu (p:Option bK)(r:bK):Bool:=eZ r && match p with | none=>true | some q=>decide (gI q r<0)
def bZ (l:List bK):Bool:=kJ fu none l
def hU (r:bK)(e:aS):Bool:=(decide (r.cM={ data:=#[] }) || decide (r.cM=e.cM)) && hasB r.bx e.rep e.num
def bL (rs:List bK)(e:aS):Bool:=rs.any fun r=>hU r e
theorem bT {rs:List RL}{i:Nat}{x:RL}(h:rs[i]?=some x):(rs.map RL.d)[i]?=some x.d:=by rw[List.getElem?_map,h];rfl
theorem oX (x:RL)(j:Nat)(u:Value)(e:([Value.slice x.p.va x.p.d.vec.length x.p.vc,Value.slice x.p.ca x.p.d.ab.length x.p.cc]:List Value)[j]?=some u):(js x)[1+j]?=some u:=by
 have hj:=(List.getElem?_eq_some_iff.1 e).1;rw[←e]
 match j,hj with
 | 0,_=>rfl
 | 1,_=>rfl
def ew (n:Nat)(rs:List RL):Prop:=∀r∈rs,r.p.d.vec.length≤1000000000000∧r.p.d.ab.length≤n
theorem ew.get {n:Nat}{rs:List RL}(h:ew n rs){i:Nat}{x:RL}(hx:rs[i]?=some x):x.p.d.vec.length≤1000000000000∧x.p.d.ab.length≤n:=h x (List.mem_of_getElem? hx)
theorem FT {a b:ByteArray}(h:rV a.data.toList b.data.toList=true):yJ a b=-1:=by unfold yJ;rw[if_pos h]
theorem Fm {a b:ByteArray}(h:rV a.data.toList b.data.toList=false)(h':rV b.data.toList a.data.toList=true):yJ a b=1:=by unfold yJ;rw[if_neg (by simp[h]),if_pos h']
theorem Hj {a b:ByteArray}(h:rV a.data.toList b.data.toList=false)(h':rV b.data.toList a.data.toList=false):yJ a b=0:=by unfold yJ;rw[if_neg (by simp[h]),if_neg (by simp[h'])]
theorem Eo {a b:ByteArray}(h:a.data.toList=b.data.toList):a=b:=by
 obtain⟨⟨x⟩⟩:=a;obtain⟨⟨y⟩⟩:=b;simp only at h;subst h;rfl
theorem rI {a b:ByteArray}:yJ a b=0↔a=b:=by
 unfold yJ;constructor
 ·
  intro h
  by_cases h1:rV a.data.toList b.data.toList=true
  ·
   rw[if_pos h1]at h;cases h
  ·
   by_cases h2:rV b.data.toList a.data.toList=true
   ·
    rw[if_neg h1,if_pos h2]at h;cases h
   ·
    have:=tq a.data.toList b.data.toList;simp only[Bool.not_eq_true]at h1 h2;rw[h1,h2]at this;simp at this;exact Eo (by simpa using this)
 ·
  rintro rfl;rw[qu];rfl
theorem BJ {p q:aI}(h:∀r n,x8 p r n↔x8 q r n)(r n:Int):hasB p r n=hasB q r n:=by
 rw[Bool.eq_iff_iff,jb,jb,h]
theorem DH {ps:List aI}{r n:Int}:x8 (iB ps) r n↔∃p∈ps,x8 p r n:=by
 unfold x8;constructor
 ·
  rintro ⟨h1,h2,h3⟩;obtain⟨p,hp,h4⟩:=(sV ps (by omega) n).1 h3;exact⟨p,hp,h1,h2,h4⟩
 ·
  rintro ⟨p,hp,h1,h2,h3⟩;exact⟨h1,h2,(sV ps (by omega) n).2 ⟨p,hp,h3⟩⟩
theorem Dd (ps:List aI)(r n:Int):hasB (iB ps) r n=ps.any fun p=>hasB p r n:=by
 rw[Bool.eq_iff_iff,jb,DH,List.any_eq_true];constructor
 ·
  rintro ⟨p,hp,h⟩;exact⟨p,hp,jb.2 h⟩
 ·
  rintro ⟨p,hp,h⟩;exact⟨p,hp,jb.1 h⟩
theorem vj (a b:aI)(r n:Int):hasB (ke a b) r n=(hasB a r n && !hasB b r n):=by
 rw[Bool.eq_iff_iff,jb,Bool.and_eq_true,jb,Bool.not_eq_true',←Bool.not_eq_true,jb];unfold x8;constructor
 ·
  rintro ⟨h1,h2,h3⟩;rw[kI a b (by omega)]at h3;obtain⟨h4,h5⟩:=(mC (bG a _) (bG b _) n).1 h3;exact⟨⟨h1,h2,h4⟩,fun h=>h5 h.2.2⟩
 ·
  rintro ⟨⟨h1,h2,h3⟩,h4⟩;refine⟨h1,h2,?_⟩;rw[kI a b (by omega)];exact (mC (bG a _) (bG b _) n).2 ⟨h3,fun h=>h4 ⟨h1,h2,h⟩⟩
theorem DG (p:aI)(r n:Int):hasB (gS p) r n=hasB p r n:=by
 refine BJ (fun r n=>?_) r n;unfold x8;constructor
 ·
  rintro ⟨h1,h2,h3⟩;rw[show gS p=fR (aP p) from rfl,j3 (fun r=>bG p r) (by omega)]at h3;exact⟨h1,h2,h3⟩
 ·
  rintro ⟨h1,h2,h3⟩;refine⟨h1,h2,?_⟩;rw[show gS p=fR (aP p) from rfl,j3 (fun r=>bG p r) (by omega)];exact h3
theorem qc {p:aI}(h:eO p=true)(r n:Int):hasB p r n=false:=by
 rw[Bool.eq_false_iff,ne_eq,jb];rintro ⟨h1,h2,h3⟩;rw[(sI p).1 h r.toNat (by omega)]at h3;simp[bJ]at h3
theorem CJ {a b:ByteArray}(h:rV b.data.toList a.data.toList=true):yJ a b=1:=by
 refine Fm ?_ h
 by_cases h2:rV a.data.toList b.data.toList=true
 ·
  have:=wW _ _ _ h2 h;rw[qu]at this;cases this
 ·
  simpa using h2
theorem Cm {a b:ByteArray}(h:rV b.data.toList a.data.toList=false)(h':¬a=b):yJ a b=-1:=by
 refine FT ?_;have h1:=tq b.data.toList a.data.toList;rw[←h1,h];have h2:¬b.data.toList=a.data.toList:=fun e=>h' (Eo e.symm)
 simp at h2 ⊢;exact h2
end Go.Proofs.YtkjabaihpkbfhaaGreat.Wk
namespace Go.Proofs.YtkjabaihpkbfhaaGreat.Wk
open Go Go.RowKit Go.Proofs.YtkjabaihpkbfhaaGreat Go.Proofs.YtkjabaihpkbfhaaGreat.K Go.Proofs Go.Shelf Go.Proofs.YtkjabaihpkbfhaaGreat.T
theorem AG (W:World)(a b:ByteArray):Calls Tryz.prog 397 #[.string a,.string b] W fun e w'=>e=.returned (.int .i64 (Lib.compareBytes a.data.toList b.data.toList))∧w'=W:=by
 go_enter Tryz.func397,Tryz.ntmps397
 go_wp2
 rw[run_callFunc_extern Tryz.func413 (by kernel_rfl) (by kernel_rfl) (by kernel_rfl) (e:=Extern.BytealgCompare.compare) (by kernel_rfl),Lib.run_compareString];simp only[Result.andThen];rw[Oper.upon_value]
 go_wp2
 go_ret
 exact⟨rfl,rfl⟩
theorem tk (W:World)(a b:ByteArray):Calls Tryz.prog 397 #[.string a,.string b] W fun e w'=>e=.returned (.int .i64 (yJ a b))∧Sat W w' []:=
 (AG W a b).mono fun e w' ⟨h,hw⟩=>⟨by rw[h,B4];rfl,by rw[hw];exact Sat.start W⟩
theorem se (W:World)(s t:ByteArray)  : Calls Tryz.prog 386 #[.string s,.string t] W fun e w'=>e=.returned (.int .i64 (yJ s t))∧Sat W w' []:=by
 refine bS Tryz.func386 [0,1] ?_;have O:=Sat.start W;refine uC 9 ?_;refine uF rfl (tk _ s t) ?_;rintro e w ⟨rfl,hT⟩;replace O:Sat _ _ _:=O.ag hT;clear hT;refine uO 4 ?_;refine aY ?_;exact⟨rfl,O⟩
end Go.Proofs.YtkjabaihpkbfhaaGreat.Wk
namespace Go.Proofs.YtkjabaihpkbfhaaGreat.Wk
open Go Go.RowKit Go.Proofs.YtkjabaihpkbfhaaGreat Go.Proofs.YtkjabaihpkbfhaaGreat.K Go.Proofs.YtkjabaihpkbfhaaGreat.T
theorem uV (W:World)(x y:RL)(hpa:x.p.ok W)(hpb:y.p.ok W)(hla:x.p.d.ab.length≤10000000000)(hlb:y.p.d.ab.length≤10000000000):Calls Tryz.prog 369 #[.agg #[.string x.cM,.slice x.p.va x.p.d.vec.length x.p.vc,.slice x.p.ca x.p.d.ab.length x.p.cc],.agg #[.string y.cM,.slice y.p.va y.p.d.vec.length y.p.vc,.slice y.p.ca y.p.d.ab.length y.p.cc]] W fun e w'=>e=.returned (.int .i64 (gI x.d y.d))∧Sat W w' []:=by
 refine bS Tryz.func369 [0,1] ?_;have O:=Sat.start W;refine uC 2 ?_;refine uB rfl O ?_;clear O;intro b2 w O;refine uB rfl O ?_;clear O;intro b3 w O;refine uO 6 ?_;refine u1 0 (aa rfl cf) ?_;refine u1 0 (ld rfl) ?_;refine u1 0 (aa rfl cf) ?_;refine u1 0 (ld rfl) ?_;refine uF rfl (se _ x.cM y.cM) ?_;rintro e w ⟨rfl,hT⟩;replace O:Sat _ _ _:=O.ag hT;clear hT;refine uO 6 ?_;refine aJ 0 0 (aD rfl rfl) ?_ ?_
 ·intro h12;refine uO 11 ?_;refine aY ?_;refine⟨?_,O.nil⟩;unfold gI RL.d;dsimp only;rw[if_neg (by omega)]
 ·intro h12;refine uO 7 ?_;refine u1 0 (aa rfl bN) ?_;refine u1 0 (lS (cs:=[_,_]) rfl) ?_;refine u1 0 (aa rfl bN) ?_;refine u1 0 (lS (cs:=[_,_]) rfl) ?_;refine uF rfl (u2 _ x.p y.p (hpa.sat O) (hpb.sat O) hla hlb) ?_;rintro e w ⟨rfl,hT⟩;replace O:Sat _ _ _:=O.ag hT;clear hT;refine uO 4 ?_;refine aY ?_;refine⟨?_,O.nil⟩;unfold gI RL.d;dsimp only;rw[if_pos (by omega)]
theorem tY (W:World)(x y:RL)(hpa:x.p.ok W)(hpb:y.p.ok W)(hla:x.p.d.ab.length≤10000000000)(hlb:y.p.d.ab.length≤10000000000):Calls Tryz.prog 229 #[.agg #[.string x.cM,.slice x.p.va x.p.d.vec.length x.p.vc,.slice x.p.ca x.p.d.ab.length x.p.cc],.agg #[.string y.cM,.slice y.p.va y.p.d.vec.length y.p.vc,.slice y.p.ca y.p.d.ab.length y.p.cc]] W fun e w'=>e=.returned (.int .i64 (gI x.d y.d))∧Sat W w' []:=by
 refine bS Tryz.func229 [0,1] ?_;have O:=Sat.start W;refine uC 2 ?_;refine uB rfl O ?_;clear O;intro b2 w O;refine uB rfl O ?_;clear O;intro b3 w O;refine uO 6 ?_;refine u1 0 (aa rfl cf) ?_;refine u1 0 (ld rfl) ?_;refine u1 0 (aa rfl cf) ?_;refine u1 0 (ld rfl) ?_;refine j4 0 0 (IE rfl rfl) ?_ ?_
 ·intro h9;refine uO 10 ?_;refine aY ?_;refine⟨?_,O.nil⟩;unfold gI RL.d;dsimp only;rw[FT h9,if_neg (by decide)]
 ·intro h9;refine uO 8 ?_;refine u1 0 (aa rfl cf) ?_;refine u1 0 (ld rfl) ?_;refine u1 0 (aa rfl cf) ?_;refine u1 0 (ld rfl) ?_;refine j4 0 0 (FE rfl rfl) ?_ ?_
  ·intro h14;refine uO 10 ?_;refine aY ?_;refine⟨?_,O.nil⟩;unfold gI RL.d;dsimp only;rw[Fm h9 h14,if_neg (by decide)]
  ·intro h14;refine uO 7 ?_;refine u1 0 (aa rfl bN) ?_;refine u1 0 (lS (cs:=[_,_]) rfl) ?_;refine u1 0 (aa rfl bN) ?_;refine u1 0 (lS (cs:=[_,_]) rfl) ?_;refine uF rfl (lu _ x.p y.p (hpa.sat O) (hpb.sat O) hla hlb) ?_;rintro e w ⟨rfl,hT⟩;replace O:Sat _ _ _:=O.ag hT;clear hT;refine uO 3 ?_;intro a I;replace I:=I.kp [4] rfl;refine rC 1 I ?_;clear I a;refine aY ?_;refine⟨?_,O.nil⟩;unfold gI RL.d;dsimp only;rw[Hj h9 h14,if_pos rfl]
theorem qT (W:World)(r:RL)(hp:r.p.ok W)(hrv:r.p.d.vec.length≤1000000000000)(hrc:r.p.d.ab.length≤10000000000):Calls Tryz.prog 368 #[.agg #[.string r.cM,.slice r.p.va r.p.d.vec.length r.p.vc,.slice r.p.ca r.p.d.ab.length r.p.cc]] W fun e w'=>e=.returned (.int .i64 (nY r.d))∧Sat W w' []:=by
 refine bS Tryz.func368 [0] ?_;have O:=Sat.start W;refine uC 2 ?_;refine uB rfl O ?_;clear O;intro b1 w O;refine uO 6 ?_;refine u1 0 (aa rfl cf) ?_;refine u1 0 (ld rfl) ?_;refine aJ 0 0 (x9 rfl rfl) ?_ ?_
 ·intro h5;refine uO 1 ?_;refine u1 0 (aa rfl cf) ?_;refine u1 0 (ld rfl) ?_;refine iV rfl (pB _ r.cM) ?_;rintro e w ⟨rfl,hT⟩;replace O:Sat _ _ _:=O.ag hT;clear hT;generalize h9:(lE r.cM)=bb;cases bb
  ·refine u1 11 (aB rfl) ?_;refine aY ?_;refine⟨?_,O.nil⟩;unfold nY RL.d;dsimp only;rw[if_neg (by rw[h9];simpa using h5)]
  ·refine u1 9 (aB rfl) ?_;refine u1 0 (aa rfl bN) ?_;refine u1 0 (lS (cs:=[_,_]) rfl) ?_;refine uF rfl (gx _ r.p (hp.sat O) hrc hrv) ?_;rintro e w ⟨rfl,hT⟩;replace O:Sat _ _ _:=O.ag hT;clear hT;generalize h14:(bg r.p.d)=bb;cases bb
   ·refine u1 13 (aB rfl) ?_;intro a I;replace I:=I.kp [2] rfl;refine rC 2 I ?_;clear I a;refine aY ?_;refine⟨?_,O.nil⟩;unfold nY RL.d;dsimp only;rw[if_pos (by simp[h9]),if_neg (by rw[h14];simp)]
   ·refine u1 1 (aB rfl) ?_;refine u1 0 (aa rfl bN) ?_;refine u1 0 (lS (cs:=[_,_]) rfl) ?_;refine iV rfl (gw _ r.p (hp.sat O) hrc) ?_;rintro e w ⟨rfl,hT⟩;replace O:Sat _ _ _:=O.ag hT;clear hT;generalize h19:(eO r.p.d)=bb;cases bb
    ·refine uO 12 ?_;refine aY ?_;refine⟨?_,O.nil⟩;unfold nY RL.d;dsimp only;rw[if_pos (by simp[h9]),if_pos (by rw[h14,h19];rfl)]
    ·refine uO 11 ?_;refine aY ?_;refine⟨?_,O.nil⟩;unfold nY RL.d;dsimp only;rw[if_pos (by simp[h9]),if_neg (by rw[h19];simp)]
 ·intro h5;refine uO 14 ?_;refine u1 0 (aa rfl bN) ?_;refine u1 0 (lS (cs:=[_,_]) rfl) ?_;refine uF rfl (gx _ r.p (hp.sat O) hrc hrv) ?_;rintro e w ⟨rfl,hT⟩;replace O:Sat _ _ _:=O.ag hT;clear hT;generalize h14:(bg r.p.d)=bb;cases bb
  ·refine u1 13 (aB rfl) ?_;intro a I;replace I:=I.kp [2] rfl;refine rC 2 I ?_;clear I a;refine aY ?_;refine⟨?_,O.nil⟩;unfold nY RL.d;dsimp only;rw[if_pos (by simp;exact .inl (Classical.not_not.1 h5)),if_neg (by rw[h14];simp)]
  ·refine u1 1 (aB rfl) ?_;refine u1 0 (aa rfl bN) ?_;refine u1 0 (lS (cs:=[_,_]) rfl) ?_;refine iV rfl (gw _ r.p (hp.sat O) hrc) ?_;rintro e w ⟨rfl,hT⟩;replace O:Sat _ _ _:=O.ag hT;clear hT;generalize h19:(eO r.p.d)=bb;cases bb
   ·refine uO 12 ?_;refine aY ?_;refine⟨?_,O.nil⟩;unfold nY RL.d;dsimp only;rw[if_pos (by simp;exact .inl (Classical.not_not.1 h5)),if_pos (by rw[h14,h19];rfl)]
   ·refine uO 9 ?_;intro a I;replace I:=I.kp [2] rfl;refine rC 2 I ?_;clear I a;refine aY ?_;refine⟨?_,O.nil⟩;unfold nY RL.d;dsimp only;rw[if_pos (by simp;exact .inl (Classical.not_not.1 h5)),if_neg (by rw[h19];simp)]
theorem pY (W:World)(r:RL)(hp:r.p.ok W)(hrv:r.p.d.vec.length≤1000000000000)(hrc:r.p.d.ab.length≤10000000000):Calls Tryz.prog 228 #[.agg #[.string r.cM,.slice r.p.va r.p.d.vec.length r.p.vc,.slice r.p.ca r.p.d.ab.length r.p.cc]] W fun e w'=>e=.returned (.int .i64 (nY r.d))∧Sat W w' []:=by
 refine bS Tryz.func228 [0] ?_;have O:=Sat.start W;refine uC 2 ?_;refine uB rfl O ?_;clear O;intro b1 w O;refine uO 6 ?_;refine u1 0 (aa rfl cf) ?_;refine u1 0 (ld rfl) ?_;refine aJ 0 0 (x9 rfl rfl) ?_ ?_
 ·intro h5;refine uO 1 ?_;refine u1 0 (aa rfl cf) ?_;refine u1 0 (ld rfl) ?_;refine iV rfl (ft _ r.cM) ?_;rintro e w ⟨rfl,hT⟩;replace O:Sat _ _ _:=O.ag hT;clear hT;generalize h9:(lE r.cM)=bb;cases bb
  ·refine u1 11 (aB rfl) ?_;refine aY ?_;refine⟨?_,O.nil⟩;unfold nY RL.d;dsimp only;rw[if_neg (by rw[h9];simpa using h5)]
  ·refine u1 9 (aB rfl) ?_;refine u1 0 (aa rfl bN) ?_;refine u1 0 (lS (cs:=[_,_]) rfl) ?_;refine uF rfl (eG _ r.p (hp.sat O) hrc hrv) ?_;rintro e w ⟨rfl,hT⟩;replace O:Sat _ _ _:=O.ag hT;clear hT;generalize h14:(bg r.p.d)=bb;cases bb
   ·refine u1 13 (aB rfl) ?_;intro a I;replace I:=I.kp [2] rfl;refine rC 2 I ?_;clear I a;refine aY ?_;refine⟨?_,O.nil⟩;unfold nY RL.d;dsimp only;rw[if_pos (by simp[h9]),if_neg (by rw[h14];simp)]
   ·refine u1 1 (aB rfl) ?_;refine u1 0 (aa rfl bN) ?_;refine u1 0 (lS (cs:=[_,_]) rfl) ?_;refine iV rfl (jg _ r.p (hp.sat O) hrc) ?_;rintro e w ⟨rfl,hT⟩;replace O:Sat _ _ _:=O.ag hT;clear hT;generalize h19:(eO r.p.d)=bb;cases bb
    ·refine uO 12 ?_;refine aY ?_;refine⟨?_,O.nil⟩;unfold nY RL.d;dsimp only;rw[if_pos (by simp[h9]),if_pos (by rw[h14,h19];rfl)]
    ·refine uO 11 ?_;refine aY ?_;refine⟨?_,O.nil⟩;unfold nY RL.d;dsimp only;rw[if_pos (by simp[h9]),if_neg (by rw[h19];simp)]
 ·intro h5;refine uO 14 ?_;refine u1 0 (aa rfl bN) ?_;refine u1 0 (lS (cs:=[_,_]) rfl) ?_;refine uF rfl (eG _ r.p (hp.sat O) hrc hrv) ?_;rintro e w ⟨rfl,hT⟩;replace O:Sat _ _ _:=O.ag hT;clear hT;generalize h14:(bg r.p.d)=bb;cases bb
  ·refine u1 13 (aB rfl) ?_;intro a I;replace I:=I.kp [2] rfl;refine rC 2 I ?_;clear I a;refine aY ?_;refine⟨?_,O.nil⟩;unfold nY RL.d;dsimp only;rw[if_pos (by simp;exact .inl (Classical.not_not.1 h5)),if_neg (by rw[h14];simp)]
  ·refine u1 1 (aB rfl) ?_;refine u1 0 (aa rfl bN) ?_;refine u1 0 (lS (cs:=[_,_]) rfl) ?_;refine iV rfl (jg _ r.p (hp.sat O) hrc) ?_;rintro e w ⟨rfl,hT⟩;replace O:Sat _ _ _:=O.ag hT;clear hT;generalize h19:(eO r.p.d)=bb;cases bb
   ·refine uO 12 ?_;refine aY ?_;refine⟨?_,O.nil⟩;unfold nY RL.d;dsimp only;rw[if_pos (by simp;exact .inl (Classical.not_not.1 h5)),if_pos (by rw[h14,h19];rfl)]
   ·refine uO 9 ?_;intro a I;replace I:=I.kp [2] rfl;refine rC 2 I ?_;clear I a;refine aY ?_;refine⟨?_,O.nil⟩;unfold nY RL.d;dsimp only;rw[if_pos (by simp;exact .inl (Classical.not_not.1 h5)),if_neg (by rw[h19];simp)]
theorem gk (W:World)(A:Option Addr)(c:Nat)(rs:List RL)(hR:iF W A c rs)(hE:∀r∈rs,r.p.ok W)(hB:ew 10000000000 rs)(hl:rs.length≤1000000000000):Calls Tryz.prog 353 #[.slice A (rs).length c] W fun e w'=>e=.returned (.int .i64 (if bZ (rs.map RL.d)=true then 0 else 1))∧Sat W w' []:=by
 refine bS Tryz.func353 [0] ?_;have O:=Sat.start W;refine uC 9 ?_;refine u1 4 (ak rfl dk) ?_;intro a I;refine wp_loop_ghost (fun (mm:Nat) a w=>∃(i:Nat),Ag a 30 [(0,.slice A (rs).length c),(5,.slice A (rs).length c),(6,.int .i64 ((rs.length:Nat):Int)),(7,.int .i64 ((i:Nat):Int))]∧Sat W w ([])∧(i≤rs.length)∧(∀j x,j<i→(rs.map RL.d)[j]?=some x→fu (ahead none (rs.map RL.d) j) x=true)∧mm=rs.length-i) rs.length ?_ ?_
 ·replace I:=I.kp [0,5,6,7] rfl;exact⟨0,I,O,(by omega),(by intro j x hj;omega),by omega⟩
 intro m a w hI;clear O I;obtain⟨i,I,O,hi,he,rfl⟩:=hI;refine rC 2 I ?_;clear I a;refine aJ 0 0 (aq rfl rfl) ?_ ?_
 ·intro h8;refine uO 11 ?_;obtain⟨A_p,rfl⟩:∃q,A=some q:=(hR.sat O).au (by omega);obtain⟨x,hx⟩:∃zz_,rs[i]?=some zz_:=⟨_,List.getElem?_eq_getElem (by omega)⟩;have hxo:=hE x (List.mem_of_getElem? hx);obtain⟨hxv,hxc⟩:=hB.get hx;refine u1 0 (ix rfl rfl dk cA) ?_;refine u1 0 (aG (cs:=js x) rfl lZ cA (fun j u e=>bQ (hR.sat O) (df hx j u e))) ?_;refine uN nO O ?_;clear O;intro b4 w O;refine uO 1 ?_;refine uW (vs:=[_,_,_]) (cs':=[_,_,_]) rfl rfl cA O ?_;clear O;intro w O;refine uO 3 ?_;intro a I;refine bf [13] O (by kernel_rfl) ?_;replace O:=O.drew;refine X1 0 [] I rfl (by exact⟨[],O⟩) (fun w hT=>have O:=hT.sat;(aG (cs:=[_,_,_]) (I.ev rfl) lZ cA (by exact O.ao (xs:=[_,_,_]) rfl))) ?_;clear I a;intro a I;refine aE 1 (by kernel_rfl) ?_
  refine eF I rfl rfl Iv rfl (qT _ x (hxo.sat O) hxv hxc) ?_;clear I a;rintro e w ⟨rfl,hT⟩;replace O:Sat _ _ _:=O.ag hT;clear hT;refine⟨_,rfl,?_⟩;intro a I;refine⟨.inr fun _=>(by exact⟨[],O⟩),?_⟩;refine K.zh 2 I pk rfl rfl rfl rfl (by kernel_rfl) (by kernel_rfl) (by kernel_rfl) (fun w=>(aD (I.ev rfl) (I.ev rfl))) ?_ ?_
  ·clear I a;intro h14;refine uX [3,4,5,6,7,8,9,10,11,12,13,14,15,16] ?_;intro a I;refine ah (by kernel_rfl) ?_ _;refine rE 13 I ?_;clear I a;refine aY ?_;have hok:eZ x.d=false:=by rw[←jS];simpa using h14
   have hst:fu (ahead none (rs.map RL.d) i) x.d=false:=by unfold fu;rw[hok];rfl
   have hf:bZ (rs.map RL.d)=false:=dN (bT hx) hst;exact⟨by simp[hf],O.nil⟩
  ·clear I a;intro h14;refine uX [3,4] ?_;intro a I;refine K.DE 5 I pk rfl (aT I rfl rfl rfl) rfl rfl (by kernel_rfl) (by kernel_rfl) (by kernel_rfl) (fun w=>(cG (I.ev rfl) (I.ev rfl))) ?_ ?_
   ·clear I a;intro h17;refine uX [6,7,8] ?_;refine bF 9 [] rfl (fun w=>(aw (sb rfl rfl) (show _=Value.int .i64 ((i-1:Nat):Int) from congrArg (Value.int .i64) (by omega)))) ?_;obtain⟨y,hy⟩:∃zz_,rs[i-1]?=some zz_:=⟨_,List.getElem?_eq_getElem (by omega)⟩;have hyo:=hE y (List.mem_of_getElem? hy);obtain⟨hyv,hyc⟩:=hB.get hy;refine bF 10 [] rfl (fun w=>(ix rfl rfl dk cA)) ?_;refine cZ 11 [] rfl (by exact⟨[],O⟩) (fun w hT=>have O:=hT.sat;(aG (cs:=js y) rfl lZ cA (fun j u e=>bQ (hR.sat O) (df hy j u e)))) ?_;refine cZ 12 [] rfl (by exact⟨[],O⟩) (fun w hT=>have O:=hT.sat;(lS (cs:=[_,_,_]) rfl)) ?_;intro a I;refine aE 13 (by kernel_rfl) ?_;refine Fb I rfl (aT I rfl rfl rfl) rfl ID rfl (uV _ y x (hyo.sat O) (hxo.sat O) hyc hxc) ?_;clear I a;rintro e w ⟨rfl,hT⟩;replace O:Sat _ _ _:=O.ag hT;clear hT
    refine⟨_,rfl,?_⟩;intro a I;refine⟨.inl rfl,?_⟩;refine K.DE 14 I pk rfl (aT I rfl rfl rfl) rfl rfl (by kernel_rfl) (by kernel_rfl) (by kernel_rfl) (fun w=>(dF (I.ev rfl) (I.ev rfl))) ?_ ?_
    ·clear I a;intro h26;refine uX [15,16] ?_;intro a I;refine ah (by kernel_rfl) ?_ _;refine rE 13 I ?_;clear I a;refine aY ?_;have hok:eZ x.d=true:=by rw[←jS];simpa using h14
     have hst:fu (ahead none (rs.map RL.d) i) x.d=false:=by
      unfold fu ahead;rw[if_neg (by omega),bT hy,hok];simp;omega
     have hf:bZ (rs.map RL.d)=false:=dN (bT hx) hst;exact⟨by simp[hf],O.nil⟩
    ·clear I a;intro h26;refine uX [15,16] ?_;intro a I;refine ah (by kernel_rfl) ?_ _;refine rE 6 I ?_;clear I a;refine u1 2 (ad rfl rfl) ?_;intro a I;replace I:=I.kp [0,5,6,7] rfl;have hok:eZ x.d=true:=by rw[←jS];simpa using h14
     have hst:fu (ahead none (rs.map RL.d) i) x.d=true:=by
      unfold fu ahead;rw[if_neg (by omega),bT hy,hok];simp;omega
     exact⟨rs.length-(i+1),by omega,i+1,I,O.nil,by omega,fun j z hj hz=>(by rcases Nat.lt_or_ge j i with h | h;exact he j z h hz;obtain rfl:j=i:=(by omega);rw[bT hx]at hz;cases hz;exact hst),rfl⟩
   ·clear I a;intro h17;refine uX [6,7,8,9,10,11,12,13,14,15,16] ?_;intro a I;refine ah (by kernel_rfl) ?_ _;refine rE 6 I ?_;clear I a;refine u1 2 (ad rfl rfl) ?_;intro a I;replace I:=I.kp [0,5,6,7] rfl;have hok:eZ x.d=true:=by rw[←jS];simpa using h14
    have hst:fu (ahead none (rs.map RL.d) i) x.d=true:=by
     obtain rfl:i=0:=by omega
     unfold fu ahead;rw[hok];rfl
    exact⟨rs.length-(i+1),by omega,i+1,I,O.nil,by omega,fun j z hj hz=>(by rcases Nat.lt_or_ge j i with h | h;exact he j z h hz;obtain rfl:j=i:=(by omega);rw[bT hx]at hz;cases hz;exact hst),rfl⟩
 ·intro h8;refine uO 15 ?_;refine aY ?_;obtain rfl:i=rs.length:=by omega
  have hf:bZ (rs.map RL.d)=true:=di fun j x hx=>he j x (by have:=(List.getElem?_eq_some_iff.1 hx).1;simpa using this) hx
  exact⟨by simp[hf],O.nil⟩
theorem kF (W:World)(A:Option Addr)(c:Nat)(rs:List RL)(hR:iF W A c rs)(hE:∀r∈rs,r.p.ok W)(hB:ew 10000000000 rs)(hl:rs.length≤1000000000000):Calls Tryz.prog 181 #[.slice A (rs).length c] W fun e w'=>e=.returned (.int .i64 (if bZ (rs.map RL.d)=true then 0 else 1))∧Sat W w' []:=by
 refine bS Tryz.func181 [0] ?_;have O:=Sat.start W;refine uC 12 ?_;intro a I;refine wp_loop_ghost (fun (mm:Nat) a w=>∃(i:Nat),Ag a 31 [(0,.slice A (rs).length c),(3,.int .i64 ((i:Nat):Int))]∧Sat W w ([])∧(i≤rs.length)∧(∀j x,j<i→(rs.map RL.d)[j]?=some x→fu (ahead none (rs.map RL.d) j) x=true)∧mm=rs.length-i) rs.length ?_ ?_
 ·replace I:=I.kp [0,3] rfl;exact⟨0,I,O,(by omega),(by intro j x hj;omega),by omega⟩
 intro m a w hI;clear O I;obtain⟨i,I,O,hi,he,rfl⟩:=hI;refine rC 5 I ?_;clear I a;refine u1 0 (ak rfl dk) ?_;refine aJ 0 0 (aq rfl rfl) ?_ ?_
 ·intro h7;refine uO 12 ?_;obtain⟨A_p,rfl⟩:∃q,A=some q:=(hR.sat O).au (by omega);obtain⟨x,hx⟩:∃zz_,rs[i]?=some zz_:=⟨_,List.getElem?_eq_getElem (by omega)⟩;have hxo:=hE x (List.mem_of_getElem? hx);obtain⟨hxv,hxc⟩:=hB.get hx;refine u1 0 (ix rfl rfl dk cA) ?_;refine u1 0 (aG (cs:=js x) rfl lZ cA (fun j u e=>bQ (hR.sat O) (df hx j u e))) ?_;refine uF rfl (pY _ x (hxo.sat O) hxv hxc) ?_;rintro e w ⟨rfl,hT⟩;replace O:Sat _ _ _:=O.ag hT;clear hT;refine aJ 0 0 (aD rfl rfl) ?_ ?_
  ·intro h15;refine uO 15 ?_;refine aY ?_;have hok:eZ x.d=false:=by rw[←jS];simpa using h15
   have hst:fu (ahead none (rs.map RL.d) i) x.d=false:=by unfold fu;rw[hok];rfl
   have hf:bZ (rs.map RL.d)=false:=dN (bT hx) hst;exact⟨by simp[hf],O.nil⟩
  ·intro h15;refine uO 6 ?_;intro a I;refine bf [12] O (by kernel_rfl) ?_;replace O:=O.drew;refine rX [0] I ?_;clear I a;intro a I;refine K.zh 1 I pk rfl rfl rfl rfl (by kernel_rfl) (by kernel_rfl) (by kernel_rfl) (fun w=>(cG (I.ev rfl) (I.ev rfl))) ?_ ?_
   ·clear I a;intro h17;refine uX [2,3,4] ?_;refine bF 5 [] rfl (fun w=>(aw (sb rfl rfl) (show _=Value.int .i64 ((i-1:Nat):Int) from congrArg (Value.int .i64) (by omega)))) ?_;obtain⟨y,hy⟩:∃zz_,rs[i-1]?=some zz_:=⟨_,List.getElem?_eq_getElem (by omega)⟩;have hyo:=hE y (List.mem_of_getElem? hy);obtain⟨hyv,hyc⟩:=hB.get hy;refine bF 6 [] rfl (fun w=>(ix rfl rfl dk cA)) ?_;refine cZ 7 [8,9] rfl (by exact⟨[],O⟩) (fun w hT=>have O:=hT.sat;(aG (cs:=js y) rfl lZ cA (fun j u e=>bQ (hR.sat O) (df hy j u e)))) ?_;refine bF 10 [] rfl (fun w=>(ix rfl rfl dk cA)) ?_;refine cZ 11 [] rfl (by exact⟨[],O⟩) (fun w hT=>have O:=hT.sat;(aG (cs:=js x) rfl lZ cA (fun j u e=>bQ (hR.sat O) (df hx j u e)))) ?_;intro a I;refine aE 12 (by kernel_rfl) ?_
    refine Fb I rfl (aT I rfl rfl rfl) rfl H2 rfl (tY _ y x (hyo.sat O) (hxo.sat O) hyc hxc) ?_;clear I a;rintro e w ⟨rfl,hT⟩;replace O:Sat _ _ _:=O.ag hT;clear hT;refine⟨_,rfl,?_⟩;intro a I;refine⟨.inl rfl,?_⟩;refine K.DE 13 I pk rfl (aT I rfl rfl rfl) rfl rfl (by kernel_rfl) (by kernel_rfl) (by kernel_rfl) (fun w=>(dF (I.ev rfl) (I.ev rfl))) ?_ ?_
    ·clear I a;intro h29;refine uX [14] ?_;intro a I;refine ah (by kernel_rfl) ?_ _;refine rE 13 I ?_;clear I a;refine aY ?_;have hok:eZ x.d=true:=by rw[←jS];simpa using h15
     have hst:fu (ahead none (rs.map RL.d) i) x.d=false:=by
      unfold fu ahead;rw[if_neg (by omega),bT hy,hok];simp;omega
     have hf:bZ (rs.map RL.d)=false:=dN (bT hx) hst;exact⟨by simp[hf],O.nil⟩
    ·clear I a;intro h29;refine uX [14] ?_;intro a I;refine ah (by kernel_rfl) ?_ _;refine rE 7 I ?_;clear I a;refine u1 2 (ad rfl rfl) ?_;intro a I;replace I:=I.kp [0,3] rfl;have hok:eZ x.d=true:=by rw[←jS];simpa using h15
     have hst:fu (ahead none (rs.map RL.d) i) x.d=true:=by
      unfold fu ahead;rw[if_neg (by omega),bT hy,hok];simp;omega
     exact⟨rs.length-(i+1),by omega,i+1,I,O.nil,by omega,fun j z hj hz=>(by rcases Nat.lt_or_ge j i with h | h;exact he j z h hz;obtain rfl:j=i:=(by omega);rw[bT hx]at hz;cases hz;exact hst),rfl⟩
   ·clear I a;intro h17;refine uX [2,3,4,5,6,7,8,9,10,11,12,13,14] ?_;intro a I;refine ah (by kernel_rfl) ?_ _;refine rE 7 I ?_;clear I a;refine u1 2 (ad rfl rfl) ?_;intro a I;replace I:=I.kp [0,3] rfl;have hok:eZ x.d=true:=by rw[←jS];simpa using h15
    have hst:fu (ahead none (rs.map RL.d) i) x.d=true:=by
     obtain rfl:i=0:=by omega
     unfold fu ahead;rw[hok];rfl
    exact⟨rs.length-(i+1),by omega,i+1,I,O.nil,by omega,fun j z hj hz=>(by rcases Nat.lt_or_ge j i with h | h;exact he j z h hz;obtain rfl:j=i:=(by omega);rw[bT hx]at hz;cases hz;exact hst),rfl⟩
 ·intro h7;refine uO 14 ?_;refine aY ?_;obtain rfl:i=rs.length:=by omega
  have hf:bZ (rs.map RL.d)=true:=di fun j x hx=>he j x (by have:=(List.getElem?_eq_some_iff.1 hx).1;simpa using this) hx
  exact⟨by simp[hf],O.nil⟩
theorem wy (W:World)(r:RL)(hp:r.p.ok W)(hrv:r.p.d.vec.length≤1000000000000)(hrc:r.p.d.ab.length≤10000000000):Calls Tryz.prog 268 #[.agg #[.string r.cM,.slice r.p.va r.p.d.vec.length r.p.vc,.slice r.p.ca r.p.d.ab.length r.p.cc]] W fun e w'=>e=.returned (.bool (eZ r.d))∧Sat W w' []:=by
 refine bS Tryz.func268 [0] ?_;have O:=Sat.start W;refine uC 2 ?_;refine uB rfl O ?_;clear O;intro b1 w O;refine uO 5 ?_;refine u1 0 (aa rfl cf) ?_;refine u1 0 (ld rfl) ?_;refine aJ 0 0 (jl rfl rfl) ?_ ?_
 ·intro h5;refine uO 6 ?_;refine u1 0 (aa rfl bN) ?_;refine u1 0 (lS (cs:=[_,_]) rfl) ?_;refine iV rfl (eG _ r.p (hp.sat O) hrc hrv) ?_;rintro e w ⟨rfl,hT⟩;replace O:Sat _ _ _:=O.ag hT;clear hT;generalize h14:(bg r.p.d)=bb;cases bb
  ·refine uO 11 ?_;refine aY ?_;refine⟨?_,O.nil⟩;unfold eZ RL.d;dsimp only;rw[decide_eq_true h5,h14];simp
  ·refine uO 2 ?_;refine u1 0 (aa rfl bN) ?_;refine u1 0 (lS (cs:=[_,_]) rfl) ?_;refine iV rfl (jg _ r.p (hp.sat O) hrc) ?_;rintro e w ⟨rfl,hT⟩;replace O:Sat _ _ _:=O.ag hT;clear hT;refine u1 5 (aB rfl) ?_;refine aY ?_;refine⟨?_,O.nil⟩;unfold eZ RL.d;dsimp only;rw[decide_eq_true h5,h14];simp
 ·intro h5;refine uO 1 ?_;refine u1 0 (aa rfl cf) ?_;refine u1 0 (ld rfl) ?_;refine iV rfl (ft _ r.cM) ?_;rintro e w ⟨rfl,hT⟩;replace O:Sat _ _ _:=O.ag hT;clear hT;generalize h9:(lE r.cM)=bb;cases bb
  ·refine uO 16 ?_;refine aY ?_;refine⟨?_,O.nil⟩;unfold eZ RL.d;dsimp only;rw[decide_eq_false h5,h9];rfl
  ·refine uO 2 ?_;refine u1 0 (aa rfl bN) ?_;refine u1 0 (lS (cs:=[_,_]) rfl) ?_;refine iV rfl (eG _ r.p (hp.sat O) hrc hrv) ?_;rintro e w ⟨rfl,hT⟩;replace O:Sat _ _ _:=O.ag hT;clear hT;generalize h14:(bg r.p.d)=bb;cases bb
   ·refine uO 11 ?_;refine aY ?_;refine⟨?_,O.nil⟩;unfold eZ RL.d;dsimp only;rw[decide_eq_false h5,h9,h14];simp
   ·refine uO 2 ?_;refine u1 0 (aa rfl bN) ?_;refine u1 0 (lS (cs:=[_,_]) rfl) ?_;refine iV rfl (jg _ r.p (hp.sat O) hrc) ?_;rintro e w ⟨rfl,hT⟩;replace O:Sat _ _ _:=O.ag hT;clear hT;refine u1 5 (aB rfl) ?_;refine aY ?_;refine⟨?_,O.nil⟩;unfold eZ RL.d;dsimp only;rw[decide_eq_false h5,h9,h14];simp
theorem vl (W:World)(A:Option Addr)(c:Nat)(rs:List RL)(hR:iF W A c rs)(hE:∀r∈rs,r.p.ok W)(hB:ew 10000000000 rs)(hl:rs.length≤1000000000000):Calls Tryz.prog 235 #[.slice A (rs).length c] W fun e w'=>e=.returned (.bool (bZ (rs.map RL.d)))∧Sat W w' []:=by
 refine bS Tryz.func235 [0] ?_;have O:=Sat.start W;refine uC 12 ?_;intro a I;refine wp_loop_ghost (fun (mm:Nat) a w=>∃(i:Nat),Ag a 49 [(0,.slice A (rs).length c),(3,.int .i64 ((i:Nat):Int))]∧Sat W w ([])∧(i≤rs.length)∧(∀j x,j<i→(rs.map RL.d)[j]?=some x→fu (ahead none (rs.map RL.d) j) x=true)∧mm=rs.length-i) rs.length ?_ ?_
 ·replace I:=I.kp [0,3] rfl;exact⟨0,I,O,(by omega),(by intro j x hj;omega),by omega⟩
 intro m a w hI;clear O I;obtain⟨i,I,O,hi,he,rfl⟩:=hI;refine rC 5 I ?_;clear I a;refine u1 0 (ak rfl dk) ?_;refine aJ 0 0 (aq rfl rfl) ?_ ?_
 ·intro h9;refine uO 12 ?_;obtain⟨A_p,rfl⟩:∃q,A=some q:=(hR.sat O).au (by omega);obtain⟨x,hx⟩:∃zz_,rs[i]?=some zz_:=⟨_,List.getElem?_eq_getElem (by omega)⟩;have hxo:=hE x (List.mem_of_getElem? hx);obtain⟨hxv,hxc⟩:=hB.get hx;refine u1 0 (ix rfl rfl dk cA) ?_;refine u1 0 (aG (cs:=js x) rfl lZ cA (fun j u e=>bQ (hR.sat O) (df hx j u e))) ?_;refine uF rfl (wy _ x (hxo.sat O) hxv hxc) ?_;rintro e w ⟨rfl,hT⟩;replace O:Sat _ _ _:=O.ag hT;clear hT;generalize h16:(eZ x.d)=bb;cases bb
  ·refine u1 15 (aB rfl) ?_;refine aY ?_;have hok:eZ x.d=false:=by simpa using h16
   have hst:fu (ahead none (rs.map RL.d) i) x.d=false:=by unfold fu;rw[hok];rfl
   have hf:bZ (rs.map RL.d)=false:=dN (bT hx) hst;exact⟨by simp[hf],O.nil⟩
  ·refine u1 8 (aB rfl) ?_;refine aJ 0 0 (cG rfl rfl) ?_ ?_
   ·intro h19;refine uO 4 ?_;intro a I;refine bf [12] O (by kernel_rfl) ?_;replace O:=O.drew;refine rX [0,1] I ?_;clear I a;refine bF 2 [] rfl (fun w=>(aw (sb rfl rfl) (show _=Value.int .i64 ((i-1:Nat):Int) from congrArg (Value.int .i64) (by omega)))) ?_;obtain⟨y,hy⟩:∃zz_,rs[i-1]?=some zz_:=⟨_,List.getElem?_eq_getElem (by omega)⟩;have hyo:=hE y (List.mem_of_getElem? hy);obtain⟨hyv,hyc⟩:=hB.get hy;refine bF 3 [] rfl (fun w=>(ix rfl rfl dk cA)) ?_;refine cZ 4 [5,6] rfl (by exact⟨[],O⟩) (fun w hT=>have O:=hT.sat;(aG (cs:=js y) rfl lZ cA (fun j u e=>bQ (hR.sat O) (df hy j u e)))) ?_;refine bF 7 [] rfl (fun w=>(ix rfl rfl dk cA)) ?_;refine cZ 8 [] rfl (by exact⟨[],O⟩) (fun w hT=>have O:=hT.sat;(aG (cs:=js x) rfl lZ cA (fun j u e=>bQ (hR.sat O) (df hx j u e)))) ?_;intro a I
    refine nG 9 10 (by kernel_rfl) ?_ ?_
    ·refine eN I rfl rfl nO O ?_;clear I a O;intro b4 w O;intro a I;refine⟨.inr fun _=>(by exact⟨[_],O⟩),?_⟩;refine aE 10 (by kernel_rfl) ?_;refine eN I rfl rfl nO O ?_;clear I a O;intro b5 w O;intro a I;refine⟨.inr fun _=>(by exact⟨[_,_],O⟩),?_⟩;refine aE 11 (by kernel_rfl) ?_;refine cH (vs:=[_,_,_]) (cs':=[_,_,_]) I rfl rfl rfl cA (by simp[Value.oneCell']) (O.p 1) rfl rfl ?_;clear O;intro w O;refine⟨.inr fun _=>(by exact⟨[_,_],O⟩),?_⟩;refine aE 12 (by kernel_rfl) ?_;refine cH (vs:=[_,_,_]) (cs':=[_,_,_]) I rfl rfl rfl cA (by simp[Value.oneCell']) (O.p 1) rfl rfl ?_;clear O;intro w O;refine⟨.inl rfl,?_⟩;refine ah (by kernel_rfl) ?_ _;refine rE 3 I ?_;clear I a;refine u1 0 (aa rfl cf) ?_;refine u1 0 (ld rfl) ?_;refine u1 0 (aa rfl cf) ?_;refine u1 0 (ld rfl) ?_;refine j4 0 0 (FE rfl rfl) ?_ ?_
     ·intro h33;refine uO 29 ?_;refine aY ?_;have hok:eZ x.d=true:=by simpa using h16
      have hst:fu (ahead none (rs.map RL.d) i) x.d=false:=by
       unfold fu ahead;rw[if_neg (by omega),bT hy,hok];unfold gI RL.d;dsimp only;rw[CJ h33,if_neg (by decide)];rfl
      have hf:bZ (rs.map RL.d)=false:=dN (bT hx) hst;exact⟨by simp[hf],O.nil⟩
     ·intro h33;refine uO 1 ?_;refine u1 0 (aa rfl cf) ?_;refine u1 0 (ld rfl) ?_;refine u1 0 (aa rfl cf) ?_;refine u1 0 (ld rfl) ?_;refine aJ 0 0 (jl rfl rfl) ?_ ?_
      ·intro h39;refine uO 1 ?_;refine u1 0 (aa rfl bN) ?_;refine u1 0 (lS (cs:=[_,_]) rfl) ?_;refine u1 0 (aa rfl bN) ?_;refine u1 0 (lS (cs:=[_,_]) rfl) ?_;refine iV rfl (lu _ y.p x.p (hyo.sat O) (hxo.sat O) hyc hxc) ?_;rintro e w ⟨rfl,hT⟩;replace O:Sat _ _ _:=O.ag hT;clear hT;refine aJ 0 0 (dF rfl rfl) ?_ ?_
       ·intro h46;refine uO 16 ?_;refine aY ?_;have hok:eZ x.d=true:=by simpa using h16
        have hst:fu (ahead none (rs.map RL.d) i) x.d=false:=by
         unfold fu ahead;rw[if_neg (by omega),bT hy,hok];unfold gI RL.d;dsimp only;rw[show yJ y.cM x.cM=0 from rI.2 h39,if_pos rfl];simp;omega
        have hf:bZ (rs.map RL.d)=false:=dN (bT hx) hst;exact⟨by simp[hf],O.nil⟩
       ·intro h46;refine uO 10 ?_;refine u1 2 (ad rfl rfl) ?_;intro a I;replace I:=I.kp [0,3] rfl;have hok:eZ x.d=true:=by simpa using h16
        have hst:fu (ahead none (rs.map RL.d) i) x.d=true:=by
         unfold fu ahead;rw[if_neg (by omega),bT hy,hok];unfold gI RL.d;dsimp only;rw[show yJ y.cM x.cM=0 from rI.2 h39,if_pos rfl];simp;omega
        exact⟨rs.length-(i+1),by omega,i+1,I,O.nil,by omega,fun j z hj hz=>(by rcases Nat.lt_or_ge j i with h | h;exact he j z h hz;obtain rfl:j=i:=(by omega);rw[bT hx]at hz;cases hz;exact hst),rfl⟩
      ·intro h39;refine uO 17 ?_;refine u1 2 (ad rfl rfl) ?_;intro a I;replace I:=I.kp [0,3] rfl;have hok:eZ x.d=true:=by simpa using h16
       have hst:fu (ahead none (rs.map RL.d) i) x.d=true:=by
        unfold fu ahead;rw[if_neg (by omega),bT hy,hok];unfold gI RL.d;dsimp only;rw[Cm h33 h39,if_neg (by decide)];rfl
       exact⟨rs.length-(i+1),by omega,i+1,I,O.nil,by omega,fun j z hj hz=>(by rcases Nat.lt_or_ge j i with h | h;exact he j z h hz;obtain rfl:j=i:=(by omega);rw[bT hx]at hz;cases hz;exact hst),rfl⟩
    ·refine eN I rfl rfl nO O ?_;clear I a O;intro b5 w O;intro a I;refine⟨.inr fun _=>(by exact⟨[_],O⟩),?_⟩;refine aE 9 (by kernel_rfl) ?_;refine eN I rfl rfl nO O ?_;clear I a O;intro b4 w O;intro a I;refine⟨.inr fun _=>(by exact⟨[_,_],O⟩),?_⟩;refine aE 11 (by kernel_rfl) ?_;refine cH (vs:=[_,_,_]) (cs':=[_,_,_]) I rfl rfl rfl cA (by simp[Value.oneCell']) O rfl rfl ?_;clear O;intro w O;refine⟨.inr fun _=>(by exact⟨[_,_],O⟩),?_⟩;refine aE 12 (by kernel_rfl) ?_;refine cH (vs:=[_,_,_]) (cs':=[_,_,_]) I rfl rfl rfl cA (by simp[Value.oneCell']) (O.p 1) rfl rfl ?_;clear O;intro w O;refine⟨.inl rfl,?_⟩;refine ah (by kernel_rfl) ?_ _;refine rE 3 I ?_;clear I a;refine u1 0 (aa rfl cf) ?_;refine u1 0 (ld rfl) ?_;refine u1 0 (aa rfl cf) ?_;refine u1 0 (ld rfl) ?_;refine j4 0 0 (FE rfl rfl) ?_ ?_
     ·intro h33;refine uO 29 ?_;refine aY ?_;have hok:eZ x.d=true:=by simpa using h16
      have hst:fu (ahead none (rs.map RL.d) i) x.d=false:=by
       unfold fu ahead;rw[if_neg (by omega),bT hy,hok];unfold gI RL.d;dsimp only;rw[CJ h33,if_neg (by decide)];rfl
      have hf:bZ (rs.map RL.d)=false:=dN (bT hx) hst;exact⟨by simp[hf],O.nil⟩
     ·intro h33;refine uO 1 ?_;refine u1 0 (aa rfl cf) ?_;refine u1 0 (ld rfl) ?_;refine u1 0 (aa rfl cf) ?_;refine u1 0 (ld rfl) ?_;refine aJ 0 0 (jl rfl rfl) ?_ ?_
      ·intro h39;refine uO 1 ?_;refine u1 0 (aa rfl bN) ?_;refine u1 0 (lS (cs:=[_,_]) rfl) ?_;refine u1 0 (aa rfl bN) ?_;refine u1 0 (lS (cs:=[_,_]) rfl) ?_;refine iV rfl (lu _ y.p x.p (hyo.sat O) (hxo.sat O) hyc hxc) ?_;rintro e w ⟨rfl,hT⟩;replace O:Sat _ _ _:=O.ag hT;clear hT;refine aJ 0 0 (dF rfl rfl) ?_ ?_
       ·intro h46;refine uO 16 ?_;refine aY ?_;have hok:eZ x.d=true:=by simpa using h16
        have hst:fu (ahead none (rs.map RL.d) i) x.d=false:=by
         unfold fu ahead;rw[if_neg (by omega),bT hy,hok];unfold gI RL.d;dsimp only;rw[show yJ y.cM x.cM=0 from rI.2 h39,if_pos rfl];simp;omega
        have hf:bZ (rs.map RL.d)=false:=dN (bT hx) hst;exact⟨by simp[hf],O.nil⟩
       ·intro h46;refine uO 10 ?_;refine u1 2 (ad rfl rfl) ?_;intro a I;replace I:=I.kp [0,3] rfl;have hok:eZ x.d=true:=by simpa using h16
        have hst:fu (ahead none (rs.map RL.d) i) x.d=true:=by
         unfold fu ahead;rw[if_neg (by omega),bT hy,hok];unfold gI RL.d;dsimp only;rw[show yJ y.cM x.cM=0 from rI.2 h39,if_pos rfl];simp;omega
        exact⟨rs.length-(i+1),by omega,i+1,I,O.nil,by omega,fun j z hj hz=>(by rcases Nat.lt_or_ge j i with h | h;exact he j z h hz;obtain rfl:j=i:=(by omega);rw[bT hx]at hz;cases hz;exact hst),rfl⟩
      ·intro h39;refine uO 17 ?_;refine u1 2 (ad rfl rfl) ?_;intro a I;replace I:=I.kp [0,3] rfl;have hok:eZ x.d=true:=by simpa using h16
       have hst:fu (ahead none (rs.map RL.d) i) x.d=true:=by
        unfold fu ahead;rw[if_neg (by omega),bT hy,hok];unfold gI RL.d;dsimp only;rw[Cm h33 h39,if_neg (by decide)];rfl
       exact⟨rs.length-(i+1),by omega,i+1,I,O.nil,by omega,fun j z hj hz=>(by rcases Nat.lt_or_ge j i with h | h;exact he j z h hz;obtain rfl:j=i:=(by omega);rw[bT hx]at hz;cases hz;exact hst),rfl⟩
   ·intro h19;refine uO 8 ?_;refine u1 2 (ad rfl rfl) ?_;intro a I;replace I:=I.kp [0,3] rfl;have hok:eZ x.d=true:=by simpa using h16
    have hst:fu (ahead none (rs.map RL.d) i) x.d=true:=by
     obtain rfl:i=0:=by omega
     unfold fu ahead;rw[hok];rfl
    exact⟨rs.length-(i+1),by omega,i+1,I,O.nil,by omega,fun j z hj hz=>(by rcases Nat.lt_or_ge j i with h | h;exact he j z h hz;obtain rfl:j=i:=(by omega);rw[bT hx]at hz;cases hz;exact hst),rfl⟩
 ·intro h9;refine uO 14 ?_;refine aY ?_;obtain rfl:i=rs.length:=by omega
  have hf:bZ (rs.map RL.d)=true:=di fun j x hx=>he j x (by have:=(List.getElem?_eq_some_iff.1 hx).1;simpa using this) hx
  exact⟨by simp[hf],O.nil⟩
theorem yg (W:World)(r:RL)(e1:aS)(hp:r.p.ok W)(hrv:r.p.d.vec.length≤1000000000000)(hrc:r.p.d.ab.length≤10000000000):Calls Tryz.prog 376 #[.agg #[.string r.cM,.slice r.p.va r.p.d.vec.length r.p.vc,.slice r.p.ca r.p.d.ab.length r.p.cc],.agg #[.int .i64 e1.rep,.int .i64 e1.num,.string e1.cM,.int .i64 e1.qy]] W fun e w'=>e=.returned (.bool (hU r.d e1))∧Sat W w' []:=by
 refine bS Tryz.func376 [0,1] ?_;have O:=Sat.start W;refine uC 2 ?_;refine uB rfl O ?_;clear O;intro b2 w O;refine uB rfl O ?_;clear O;intro b3 w O;refine uO 5 ?_;refine u1 0 (aa rfl cf) ?_;refine u1 0 (ld rfl) ?_;refine aJ 0 0 (jl rfl rfl) ?_ ?_
 ·intro h7;refine uO 8 ?_;refine u1 0 (aa rfl bN) ?_;refine u1 0 (lS (cs:=[_,_]) rfl) ?_;refine u1 0 (aa rfl dg) ?_;refine u1 0 (lS (cs:=[_,_]) rfl) ?_;refine iV rfl (w5 _ r.p e1.rep e1.num (hp.sat O) hrv (by omega)) ?_;rintro e w ⟨rfl,hT⟩;replace O:Sat _ _ _:=O.ag hT;clear hT;refine uO 5 ?_;refine aY ?_;refine⟨?_,O.nil⟩;unfold hU RL.d;dsimp only;rw[decide_eq_true h7];rfl
 ·intro h7;refine uO 1 ?_;refine u1 0 (aa rfl cf) ?_;refine u1 0 (ld rfl) ?_;refine u1 0 (aa rfl lQ) ?_;refine u1 0 (ld rfl) ?_;refine aJ 0 0 (jl rfl rfl) ?_ ?_
  ·intro h13;refine uO 2 ?_;refine u1 0 (aa rfl bN) ?_;refine u1 0 (lS (cs:=[_,_]) rfl) ?_;refine u1 0 (aa rfl dg) ?_;refine u1 0 (lS (cs:=[_,_]) rfl) ?_;refine iV rfl (w5 _ r.p e1.rep e1.num (hp.sat O) hrv (by omega)) ?_;rintro e w ⟨rfl,hT⟩;replace O:Sat _ _ _:=O.ag hT;clear hT;refine uO 5 ?_;refine aY ?_;refine⟨?_,O.nil⟩;unfold hU RL.d;dsimp only;rw[decide_eq_true h13];simp
  ·intro h13;refine uO 12 ?_;refine aY ?_;refine⟨?_,O.nil⟩;unfold hU RL.d;dsimp only;rw[decide_eq_false h7,decide_eq_false h13];rfl
theorem wm (W:World)(r:RL)(e1:aS)(hp:r.p.ok W)(hrv:r.p.d.vec.length≤1000000000000)(hrc:r.p.d.ab.length≤10000000000):Calls Tryz.prog 238 #[.agg #[.string r.cM,.slice r.p.va r.p.d.vec.length r.p.vc,.slice r.p.ca r.p.d.ab.length r.p.cc],.agg #[.int .i64 e1.rep,.int .i64 e1.num,.string e1.cM,.int .i64 e1.qy]] W fun e w'=>e=.returned (.bool (hU r.d e1))∧Sat W w' []:=by
 refine bS Tryz.func238 [0,1] ?_;have O:=Sat.start W;refine uC 2 ?_;refine uB rfl O ?_;clear O;intro b2 w O;refine uB rfl O ?_;clear O;intro b3 w O;refine uO 5 ?_;refine u1 0 (aa rfl cf) ?_;refine u1 0 (ld rfl) ?_;refine aJ 0 0 (jl rfl rfl) ?_ ?_
 ·intro h7;refine uO 8 ?_;refine u1 0 (aa rfl bN) ?_;refine u1 0 (lS (cs:=[_,_]) rfl) ?_;refine u1 0 (aa rfl dg) ?_;refine u1 0 (lS (cs:=[_,_]) rfl) ?_;refine iV rfl (vU _ r.p e1.rep e1.num (hp.sat O) hrv (by omega)) ?_;rintro e w ⟨rfl,hT⟩;replace O:Sat _ _ _:=O.ag hT;clear hT;refine uO 5 ?_;refine aY ?_;refine⟨?_,O.nil⟩;unfold hU RL.d;dsimp only;rw[decide_eq_true h7];rfl
 ·intro h7;refine uO 1 ?_;refine u1 0 (aa rfl cf) ?_;refine u1 0 (ld rfl) ?_;refine u1 0 (aa rfl lQ) ?_;refine u1 0 (ld rfl) ?_;refine aJ 0 0 (jl rfl rfl) ?_ ?_
  ·intro h13;refine uO 2 ?_;refine u1 0 (aa rfl bN) ?_;refine u1 0 (lS (cs:=[_,_]) rfl) ?_;refine u1 0 (aa rfl dg) ?_;refine u1 0 (lS (cs:=[_,_]) rfl) ?_;refine iV rfl (vU _ r.p e1.rep e1.num (hp.sat O) hrv (by omega)) ?_;rintro e w ⟨rfl,hT⟩;replace O:Sat _ _ _:=O.ag hT;clear hT;refine uO 5 ?_;refine aY ?_;refine⟨?_,O.nil⟩;unfold hU RL.d;dsimp only;rw[decide_eq_true h13];simp
  ·intro h13;refine uO 12 ?_;refine aY ?_;refine⟨?_,O.nil⟩;unfold hU RL.d;dsimp only;rw[decide_eq_false h7,decide_eq_false h13];rfl
abbrev rm (e:Nat)(A:Option Addr)(c:Nat)(rs:List RL):As:=row e 3 (.slice A rs.length c) rs.length (rs.flatMap js)
abbrev fN (ei es:Nat)(rs:List RL):As:=bB (rs.map fun x=>x.p.ch ei es)
theorem gB {W w:World}{L:List As}{ei es:Nat}{rs:List RL}(s:ByteArray)(q:PL)(h:Sat W w (cq ei q.va q.vc q.d.vec::bp es q.ca q.cc q.d.ab::fN ei es rs::L)):Sat W w (fN ei es (rs++[⟨s,q⟩])::L):=by
 have h1:Sat W w (q.ch ei es::fN ei es rs::L):=PL.Ew h;have h2:=h1.wP;unfold fN;rw[List.map_append];exact h2
theorem nm {W w:World}{L:List As}{er ei es:Nat}{A:Option Addr}{c:Nat}{rs:List RL}(h:Sat W w (rm er A c rs::fN ei es rs::L)):Sat W w ((⟨A,c,rs⟩:jv).ch er ei es::L):=h.shut
def ko (rs:List bK)(e:aS):Nat:=(rs.filter fun r=>hU r e).length
theorem uu {rs:List bK}{e:aS}:ko rs e=0↔bL rs e=false:=by
 unfold ko bL;rw[List.length_eq_zero_iff,List.filter_eq_nil_iff,List.any_eq_false]
theorem iM {α:Type}{p:α→Bool}{xs:List α}{i:Nat}{x:α}(h:xs[i]?=some x):(xs.take (i+1)).filter p=(xs.take i).filter p++if p x=true then [x] else []:=by
 rw[aF h,List.filter_append]
 congr 1
 by_cases hp:p x=true
 ·
  rw[if_pos hp];simp[hp]
 ·
  rw[if_neg hp];simp[hp]
theorem fX {l:List bK}(h:bZ l=true):∀r∈l,eZ r=true:=fun r hr=>by
 obtain⟨i,hi⟩:=List.mem_iff_getElem?.1 hr;have:=lV h i r hi;unfold fu at this;rw[Bool.and_eq_true]at this;exact this.1
theorem De {r:bK}(h:eZ r=true):gS r.bx=r.bx:=by
 unfold eZ bg at h;simp only[Bool.and_eq_true,decide_eq_true_eq]at h;exact h.2.1
theorem ED:fR (fun _=>[])=⟨[],[]⟩:=by
 unfold fR
 have h1:∀k,cJ (bw fun _=>[]) k=0:=by
  intro k
  induction k with
  | zero=>rfl
  | succ k ih=>rw[cJ,ih];rfl
 rw[h1]
 congr 1
theorem D5 {f:Nat→List bA}(hf:∀r,can (f r))(h:eO (fR f)=true):fR f=⟨[],[]⟩:=by
 rw[←ED];refine qt fun r hr=>?_;have h1:=(sI _).1 h r hr;rwa[j3 hf hr]at h1
theorem vL {ps:List aI}(h:eO (iB ps)=true):iB ps=⟨[],[]⟩:=D5 (fun r=>eI _) h
structure oT (rs:List bK)(i:Nat)(out:List bK)(all:aI):Prop where
 Jo:∀e,bL out e=bL (rs.take i) e
 al:∀r n,hasB all r n=true→∃x∈out,x.cM={ data:=#[] }∧hasB x.bx r n=true
theorem BL (rs:List bK):oT rs 0 [] ⟨[],[]⟩:=⟨fun e=>by simp[bL],fun r n h=>by simp[hasB,iy,kC]at h⟩
theorem mi (a b:List bK)(e:aS):bL (a++b) e=(bL a e || bL b e):=by unfold bL;rw[List.any_append]
theorem kE {g:List bK}{s:ByteArray}(h:∀x∈g,x.cM=s)(e:aS):bL g e=((decide (s={ data:=#[] }) || decide (s=e.cM)) && hasB (iB (g.map bK.bx)) e.rep e.num):=by
 rw[Dd];unfold bL
 induction g with
 | nil=>simp
 | cons x g ih =>
   rw[List.any_cons,List.map_cons,List.any_cons,ih fun y hy=>h y (by simp[hy])];unfold hU;rw[h x (by simp)];cases (decide (s={ data:=#[] }) || decide (s=e.cM))<;>simp
theorem o5 {rs:List bK}{i j:Nat}(h:i≤j)(e:aS):bL (rs.take j) e=(bL (rs.take i) e || bL ((rs.drop i).take (j-i)) e):=by
 rw[←mi]
 congr 1
 have:j=i+(j-i):=by omega
 conv=>lhs;rw[this,List.take_add]
theorem Ax {rs out:List bK}{i j:Nat}{all:aI}(h:oT rs i out all)(hij:i≤j)(hg:∀x∈(rs.drop i).take (j-i),x.cM={ data:=#[] })(he:eO (iB (((rs.drop i).take (j-i)).map bK.bx))=false) :
 oT rs j (out++[⟨{ data:=#[] },iB (((rs.drop i).take (j-i)).map bK.bx)⟩]) (iB (((rs.drop i).take (j-i)).map bK.bx)):=by
 refine⟨fun e=>?_,fun r n hr=>⟨⟨{ data:=#[] },iB (((rs.drop i).take (j-i)).map bK.bx)⟩,List.mem_append_right _ (List.mem_singleton.2 rfl),rfl,hr⟩⟩;rw[mi,h.Jo,o5 hij,kE hg];simp[bL,hU]
theorem xy {rs out:List bK}{i j:Nat}{all:aI}(h:oT rs i out all)(hij:i≤j)(hg:∀x∈(rs.drop i).take (j-i),x.cM={ data:=#[] })(he:eO (iB (((rs.drop i).take (j-i)).map bK.bx))=true) :
 oT rs j out (iB (((rs.drop i).take (j-i)).map bK.bx)):=by
 refine⟨fun e=>?_,fun r n hr=>?_⟩
 ·
  rw[h.Jo,o5 hij,kE hg,qc he];simp
 ·
  rw[qc he]at hr;cases hr
theorem y2 {rs out:List bK}{i:Nat}{all:aI}(h:oT rs i out all){e:aS}(hr:hasB all e.rep e.num=true):bL out e=true:=by
 obtain⟨x,hx,h1,h2⟩:=h.al _ _ hr;unfold bL;rw[List.any_eq_true];exact⟨x,hx,by unfold hU;rw[h1,h2];simp⟩
theorem zX {rs out:List bK}{i j:Nat}{all:aI}{s:ByteArray}(h:oT rs i out all)(hij:i≤j)(hs:¬s={ data:=#[] })(hg:∀x∈(rs.drop i).take (j-i),x.cM=s) :
 oT rs j (out++[⟨s,ke (iB (((rs.drop i).take (j-i)).map bK.bx)) all⟩]) all:=by
 refine⟨fun e=>?_,fun r n hr=>?_⟩
 ·
  rw[mi,o5 hij,kE hg,←h.Jo];cases ha:hasB all e.rep e.num with
  | true=>rw[y2 h ha];simp
  | false=>simp[bL,hU,vj,ha]
 ·
  obtain⟨x,hx,h1,h2⟩:=h.al r n hr;exact⟨x,by simp[hx],h1,h2⟩
theorem wI {rs out:List bK}{i j:Nat}{all:aI}{s:ByteArray}(h:oT rs i out all)(hij:i≤j)(hg:∀x∈(rs.drop i).take (j-i),x.cM=s)(he:eO (ke (iB (((rs.drop i).take (j-i)).map bK.bx)) all)=true)(hs:¬s={ data:=#[] }) :
 oT rs j out all:=by
 refine⟨fun e=>?_,h.al⟩;rw[o5 hij,kE hg,←h.Jo];have h1:=qc he e.rep e.num;rw[vj]at h1;cases ha:hasB all e.rep e.num with
 | true=>rw[y2 h ha];simp
 | false=>rw[ha]at h1;simp at h1;simp[h1]
theorem By (W:World)(A:Option Addr)(c:Nat)(rs:List RL)(e1:aS)(hR:iF W A c rs)(hE:∀r∈rs,r.p.ok W)(hB:ew 10000000000 rs)(hl:rs.length≤1000000000000):Calls Tryz.prog 359 #[.slice A (rs).length c,.agg #[.int .i64 e1.rep,.int .i64 e1.num,.string e1.cM,.int .i64 e1.qy]] W fun e w'=>e=.returned (.int .i64 ((ko (rs.map RL.d) e1:Nat):Int))∧Sat W w' []:=by
 refine bS Tryz.func359 [0,1] ?_;have O:=Sat.start W;refine uC 2 ?_;refine uB rfl O ?_;clear O;intro b3 w O;refine uO 12 ?_;refine u1 4 (ak rfl dk) ?_;intro a I;refine wp_loop_ghost (fun (mm:Nat) a w=>∃(i:Nat),Ag a 21 [(3,.pointer (some ⟨b3,0,none⟩)),(5,.int .i64 (((ko ((rs.map RL.d).take i) e1):Nat):Int)),(8,.slice A (rs).length c),(9,.int .i64 ((rs.length:Nat):Int)),(10,.int .i64 ((i:Nat):Int))]∧Sat W w ([a6 b3 (.cells #[.int .i64 e1.rep,.int .i64 e1.num,.string e1.cM,.int .i64 e1.qy] 216)])∧(i≤rs.length)∧(ko ((rs.map RL.d).take i) e1≤i)∧mm=rs.length-i) rs.length ?_ ?_
 ·replace I:=I.kp [3,5,8,9,10] rfl;exact⟨0,I,O,(by omega),(by simp[ko]),by omega⟩
 intro m a w hI;clear O I;obtain⟨i,I,O,hi,hn,rfl⟩:=hI;refine rC 2 I ?_;clear I a;refine aJ 0 0 (aq rfl rfl) ?_ ?_
 ·intro h11;refine uO 10 ?_;obtain⟨A_p,rfl⟩:∃q,A=some q:=(hR.sat O).au (by omega);obtain⟨x,hx⟩:∃zz_,rs[i]?=some zz_:=⟨_,List.getElem?_eq_getElem (by omega)⟩;have hxo:=hE x (List.mem_of_getElem? hx);obtain⟨hxv,hxc⟩:=hB.get hx;refine u1 0 (ix rfl rfl dk cA) ?_;refine u1 0 (aG (cs:=js x) rfl lZ cA (fun j u e=>bQ (hR.sat O) (df hx j u e))) ?_;refine uN nO O ?_;clear O;intro b7 w O;refine uW (vs:=[_,_,_]) (cs':=[_,_,_]) rfl rfl cA O ?_;clear O;intro w O;refine uO 4 ?_;refine u1 0 (lS (cs:=[_,_,_]) rfl) ?_;refine u1 0 (lS (cs:=[_,_,_,_]) rfl) ?_;refine uF rfl (yg _ x e1 (hxo.sat O) hxv hxc) ?_;rintro e w ⟨rfl,hT⟩;replace O:Sat _ _ _:=O.ag hT;clear hT;generalize h16:(hU x.d e1)=bb;cases bb
  ·refine uO 7 ?_;refine u1 2 (ad rfl rfl) ?_;intro a I;replace I:=I.kp [3,5,8,9,10] rfl;have ef:ko ((rs.map RL.d).take (i+1)) e1=ko ((rs.map RL.d).take i) e1+0:=by unfold ko;rw[iM (bT hx),List.length_append,if_neg (by simp[h16])];rfl
   rw[show ko ((rs.map RL.d).take i) e1=ko ((rs.map RL.d).take (i+1)) e1 from ef.symm]at I;exact⟨rs.length-(i+1),by omega,i+1,I,O.drop,by omega,by omega,rfl⟩
  ·refine uO 5 ?_;refine u1 5 (ad rfl rfl) ?_;refine u1 2 (ad rfl rfl) ?_;intro a I;replace I:=I.kp [3,5,8,9,10] rfl;have ef:ko ((rs.map RL.d).take (i+1)) e1=ko ((rs.map RL.d).take i) e1+1:=by unfold ko;rw[iM (bT hx),List.length_append,if_pos h16];rfl
   rw[show ((ko ((rs.map RL.d).take i) e1:Nat):Int)+1=((ko ((rs.map RL.d).take (i+1)) e1:Nat):Int) from by rw[ef];rfl]at I;exact⟨rs.length-(i+1),by omega,i+1,I,O.drop,by omega,by omega,rfl⟩
 ·intro h11;refine uO 16 ?_;refine aY ?_;obtain rfl:i=rs.length:=by omega
  rw[List.take_of_length_le (by simp)];exact⟨rfl,O.nil⟩
theorem qV (W:World)(r:RL)(hp:r.p.ok W)(hrc:r.p.d.ab.length≤10000000000):Calls Tryz.prog 360 #[.agg #[.string r.cM,.slice r.p.va r.p.d.vec.length r.p.vc,.slice r.p.ca r.p.d.ab.length r.p.cc]] W fun e w'=>∃q:PL,e=.returned (.agg #[.string r.cM,.slice q.va q.d.vec.length q.vc,.slice q.ca q.d.ab.length q.cc])∧q.d=gS r.p.d∧Sat W w' [cq 3 q.va q.vc q.d.vec,bp 219 q.ca q.cc q.d.ab]:=by
 refine bS Tryz.func360 [0] ?_;have O:=Sat.start W;refine uC 2 ?_;refine uB rfl O ?_;clear O;intro b1 w O;refine uN nO O ?_;clear O;intro b2 w O;refine uO 3 ?_;intro a I;refine bf [6] O (by kernel_rfl) ?_;replace O:=O.drew;refine P1 0 [] I rfl (fun w=>(aa (I.ev rfl) cf)) ?_;clear I a;refine cZ 1 [] rfl (by exact⟨[],O⟩) (fun w hT=>have O:=hT.sat;(ld rfl)) ?_;refine bF 2 [] rfl (fun w=>(aa rfl bN)) ?_;refine cZ 3 [] rfl (by exact⟨[],O⟩) (fun w hT=>have O:=hT.sat;(lS (cs:=[_,_]) rfl)) ?_;intro a I;refine aE 4 (by kernel_rfl) ?_;refine eF I rfl rfl jZ rfl (ct _ r.p (hp.sat O) hrc) ?_;clear I a;rintro e w ⟨q,rfl,hq,hT⟩;replace O:Sat _ _ (_::_::_):=O.ag hT;clear hT;refine⟨_,rfl,?_⟩;intro a I;refine⟨.inr fun _=>(by exact⟨[_,_],O⟩),?_⟩;refine P1 5 [] I rfl (fun w=>(ar I rfl jx)) ?_;clear I a
 intro a I;refine aE 6 (by kernel_rfl) ?_;refine cH (vs:=[_,_,_]) (cs':=[_,_,_]) I rfl rfl rfl cA (by simp[Value.oneCell']) (O.p 2) rfl rfl ?_;clear O;intro w O;refine⟨.inl rfl,?_⟩;refine ah (by kernel_rfl) ?_ _;refine rE 2 I ?_;clear I a;intro a I;refine fY I rfl (br (cs:=[_,_,_]) I rfl lZ cA (by exact O.ao (xs:=[_,_,_]) rfl)) ?_;exact⟨q,rfl,hq,n5 ((O.p 2).p 2)⟩
theorem zN (W:World)(A:Option Addr)(c:Nat)(rs:List RL)(p:PL)(hR:iF W A c rs)(hE:∀r∈rs,r.p.ok W)(hB:ew 10000000000 rs)(hl:rs.length≤1000000000000)(hp:p.ok W)(hpv:p.d.vec.length≤1000000000000)(hpc:p.d.ab.length≤10000000000)(hF:bZ (rs.map RL.d)=true)(hN:bg p.d=true):Calls Tryz.prog 347 #[.slice A (rs).length c,.agg #[.slice p.va p.d.vec.length p.vc,.slice p.ca p.d.ab.length p.cc]] W fun e w'=>∃q:jv,e=.returned (.tuple #[.slice q.a q.rs.length q.c,.int .i64 0])∧q.d=(rs.map RL.d).filter (fun r=>!ck r.bx p.d)∧Sat W w' [q.ch 206 3 219]:=by
 refine bS Tryz.func347 [0,1] ?_;have O:=Sat.start W;refine uC 2 ?_;refine uB rfl O ?_;clear O;intro b3 w O;refine uO 8 ?_;refine uF rfl (gk _ A c rs (hR.sat O) (fun r h=>(hE r h).sat O) hB hl) ?_;rintro e w ⟨rfl,hT⟩;rw[if_pos hF];replace O:Sat _ _ _:=O.ag hT;clear hT;refine u1 1 (dz (aD rfl rfl) (by omega)) ?_;refine u1 0 (lS (cs:=[_,_]) rfl) ?_;refine iV rfl (gx _ p (hp.sat O) hpc hpv) ?_;rintro e w ⟨rfl,hT⟩;rw[hN];replace O:Sat _ _ _:=O.ag hT;clear hT;refine u1 15 (aB rfl) ?_;refine u1 4 (ak rfl dk) ?_;intro a I
 refine wp_loop_ghost (fun (mm:Nat) a w=>∃(i:Nat) (out:List RL) (Ao:Option Addr) (co:Nat),Ag a 35 [(3,.pointer (some ⟨b3,0,none⟩)),(6,.slice Ao (out).length co),(17,.slice A (rs).length c),(18,.int .i64 ((rs.length:Nat):Int)),(19,.int .i64 ((i:Nat):Int))]∧Sat W w ([rm 206 Ao co out,fN 3 219 out,a6 b3 (.cells #[.slice p.va p.d.vec.length p.vc,.slice p.ca p.d.ab.length p.cc] 63)])∧(i≤rs.length)∧(out.map RL.d=((rs.map RL.d).take i).filter (fun r=>!ck r.bx p.d))∧(out.length≤i)∧mm=rs.length-i) rs.length ?_ ?_
 ·replace I:=I.kp [3,6,17,18,19] rfl;exact⟨0,[],none,0,I,(O.gX.ba 206 3),(by omega),(by rfl),(by simp),by omega⟩
 intro m a w hI;clear O I;obtain⟨i,out,Ao,co,I,O,hi,ho,hol,rfl⟩:=hI;refine rC 2 I ?_;clear I a;refine aJ 0 0 (aq rfl rfl) ?_ ?_
 ·intro h20;refine uO 10 ?_;obtain⟨A_p,rfl⟩:∃q,A=some q:=(hR.sat O).au (by omega);obtain⟨x,hx⟩:∃zz_,rs[i]?=some zz_:=⟨_,List.getElem?_eq_getElem (by omega)⟩;have hxo:=hE x (List.mem_of_getElem? hx);obtain⟨hxv,hxc⟩:=hB.get hx;refine u1 0 (ix rfl rfl dk cA) ?_;refine u1 0 (aG (cs:=js x) rfl lZ cA (fun j u e=>bQ (hR.sat O) (df hx j u e))) ?_;refine uN nO O ?_;clear O;intro b8 w O;refine uW (vs:=[_,_,_]) (cs':=[_,_,_]) rfl rfl cA O ?_;clear O;intro w O;refine uO 4 ?_;refine u1 0 (aa rfl bN) ?_;refine u1 0 (lS (cs:=[_,_]) rfl) ?_;refine u1 0 (lS (cs:=[_,_]) rfl) ?_;refine uF rfl (pM _ x.p p (hxo.sat O) (hp.sat O) hxc hpc) ?_;rintro e w ⟨rfl,hT⟩;replace O:Sat _ _ _:=O.ag hT;clear hT;generalize h26:(ck x.p.d p.d)=bb;cases bb
  ·refine u1 5 (aB rfl) ?_;refine u1 0 (lS (cs:=[_,_,_]) rfl) ?_;refine uF rfl (qV _ x (hxo.sat O) hxc) ?_;rintro e w ⟨q,rfl,hq,hT⟩;replace O:Sat _ _ (_::_::_):=O.ag hT;clear hT;intro a I;refine gF (vss:=[[_,_,_]]) I rfl rfl dk lW rfl rfl rfl (by simp) rfl O ?_;clear I a O;intro A31 w O;intro a I;refine dq I rfl rfl rfl dk lW rfl (O.p 4) (O.rd.src dk (by simp[Value.oneCell'])) (by omega) (by omega) ?_;clear I a O;intro A32 c32 w hc32 O;refine uO 5 ?_;refine u1 2 (ad rfl rfl) ?_;intro a I;replace I:=I.kp [3,6,17,18,19] rfl;have ef:=iM (p:=fun r=>!ck r.bx p.d) (bT hx);rw[if_pos (by rw[show ck x.d.bx p.d=false from h26];rfl)]at ef;have hxn:gS x.p.d=x.p.d:=De (fX hF x.d (List.mem_of_getElem? (bT hx)));have el:out.length+1=(out++[(⟨x.cM,q⟩:RL)]).length:=by simp
   have hS2:=fQ O el (cs':=(out++[(⟨x.cM,q⟩:RL)]).flatMap js) (by rw[List.flatMap_append];rfl);have hS3:=gB x.cM q (((hS2.p 5).p 4).p 4);rw[el]at I;refine⟨rs.length-(i+1),by omega,i+1,out++[(⟨x.cM,q⟩:RL)],A32,c32,I,sJ (((hS3.p 4).p 1).p 2),by omega,?_,by simp;omega,rfl⟩;rw[List.map_append,ho,ef]
   congr 1
   show [(⟨x.cM,q.d⟩:bK)]=[⟨x.cM,x.p.d⟩];rw[hq,hxn]
  ·refine u1 7 (aB rfl) ?_;refine u1 2 (ad rfl rfl) ?_;intro a I;replace I:=I.kp [3,6,17,18,19] rfl;have ef:=iM (p:=fun r=>!ck r.bx p.d) (bT hx);rw[if_neg (by rw[show ck x.d.bx p.d=true from h26];simp),List.append_nil]at ef;exact⟨rs.length-(i+1),by omega,i+1,out,Ao,co,I,O.drop,by omega,by rw[ef];exact ho,by omega,rfl⟩
 ·intro h20;refine uO 9 ?_;intro a I;replace I:=I.kp [6] rfl;refine rC 8 I ?_;clear I a;refine fo ?_;obtain rfl:i=rs.length:=by omega
  rw[List.take_of_length_le (by simp)]at ho;exact⟨⟨Ao,co,out⟩,rfl,ho,gy (nm O)⟩
theorem zV {α:Type}{rs:List α}{i j:Nat}{y:α}(hy:rs[j]?=some y)(h:i≤j):(rs.drop i).take (j+1-i)=(rs.drop i).take (j-i)++[y]:=by
 have h1:(rs.drop i)[j-i]?=some y:=by rw[List.getElem?_drop,show i+(j-i)=j from by omega];exact hy
 rw[show j+1-i=(j-i)+1 from by omega,aF h1]
theorem GJ {W w:World}{L:List As}{ei es:Nat}{out:List RL}{al:PL}(h:al.d=⟨[],[]⟩∨∃x∈out,x.p=al)(s:Sat W w (fN ei es out::L)):al.ok w:=by
 rcases h with h | ⟨x,hx,rfl⟩
 ·
  obtain⟨va,vc,ca,cc,d⟩:=al;simp only at h;subst h;exact⟨⟨va,vc,rfl,Nat.zero_le _,rfl,.inl rfl⟩,⟨ca,cc,rfl,Nat.zero_le _,rfl,.inl rfl⟩⟩
 ·
  exact oE s x hx
theorem E6 {W w:World}{L:List As}{ei es i:Nat}{rs:List RL}{x:RL}(s:ByteArray)(q:PL)(hx:rs[i]?=some x)(h:Sat W w (cq ei q.va q.vc q.d.vec::bp es q.ca q.cc q.d.ab::fN ei es rs::L)):Sat W w (fN ei es (rs.set i ⟨s,q⟩)::L):=by
 have h1:Sat W w (q.ch ei es::fN ei es rs::L):=PL.Ew h;have hm:(rs.map fun x=>x.p.ch ei es)[i]?=some (x.p.ch ei es):=by rw[List.getElem?_map,hx];rfl
 have h2:=(h1.p 1).dU hm;have h3:=((h2.p 1).p 2).u6 (by rw[List.length_map];exact (List.getElem?_eq_some_iff.1 hx).1);unfold fN;rw[List.map_set];exact (h3.p 1).drop
theorem sP (a b:List aI):dm (a++b)=dm a+dm b:=by unfold dm;rw[List.map_append,List.sum_append]
theorem zu (ps:List aI)(i k:Nat):dm ((ps.drop i).take k)≤dm ps:=by
 have h1:dm ps=dm (ps.take i)+dm (ps.drop i):=by rw[←sP,List.take_append_drop]
 have h2:dm (ps.drop i)=dm ((ps.drop i).take k)+dm ((ps.drop i).drop k):=by rw[←sP,List.take_append_drop]
 omega
theorem oz (ps:List aI):ps.length≤dm ps:=by
 induction ps with
 | nil=>simp
 | cons p ps ih=>unfold dm at *;rw[List.map_cons,List.sum_cons,List.length_cons];omega
theorem zO (ps:List aI):(iB ps).ab.length≤16 * dm ps:=by
 refine rF (fun r _=>?_) 16 (Nat.le_refl _);refine Nat.le_trans (cK _) ?_;have:=kG ps r;unfold fU at this;exact this
theorem zL (ps:List aI):zm (iB ps):=vG fun r=>eI _
theorem vN (a b:aI):zm (ke a b):=vG fun r=>kN (bG a r) (bG b r)
theorem zC {α:Type}:∀ {l:List α} {i:Nat} {v:α},l[i]?=some v→l.set i v=l
 | [],i,v,h=>by simp at h
 | a::l,0,v,h=>by simp at h;subst h;rfl
 | a::l,i+1,v,h=>by rw[List.set_cons_succ,zC (by simpa using h)]
theorem Gi {rs:List RL}{i:Nat}{x:RL}{q:PL}(hx:rs[i]?=some x)(hq:q.d=gS x.p.d)(e:aS):bL ((rs.set i ⟨x.cM,q⟩).map RL.d) e=bL (rs.map RL.d) e:=by
 have hc:hU (RL.d ⟨x.cM,q⟩) e=hU x.d e:=by unfold hU RL.d;dsimp only;rw[hq,DG]
 unfold bL;rw[List.any_map,List.any_map]
 have hm:(rs.set i ⟨x.cM,q⟩).map ((fun r=>hU r e) ∘ RL.d)=rs.map ((fun r=>hU r e) ∘ RL.d):=by
  rw[List.map_set,show ((fun r=>hU r e) ∘ RL.d) ⟨x.cM,q⟩=((fun r=>hU r e) ∘ RL.d) x from hc];have h1:(rs.map ((fun r=>hU r e) ∘ RL.d))[i]?=some (((fun r=>hU r e) ∘ RL.d) x):=by rw[List.getElem?_map,hx];rfl
  exact zC h1
 have ha:∀l:List RL,l.any ((fun r=>hU r e) ∘ RL.d)=(l.map ((fun r=>hU r e) ∘ RL.d)).any id:=fun l=>by rw[List.any_map];rfl
 rw[ha,ha,hm]
theorem BH (W:World)(A:Option Addr)(c:Nat)(rs:List RL)(hR:iF W A c rs)(hE:∀r∈rs,r.p.ok W)(hB:ew 10000000000 rs)(hl:rs.length≤1000000000000)(hs:dm (rs.map fun r=>r.p.d)≤16777216)(hF:bZ (rs.map RL.d)=true):Calls Tryz.prog 358 #[.slice A (rs).length c] W fun e w'=>∃q:jv,e=.returned (.tuple #[.slice q.a q.rs.length q.c,.int .i64 0])∧(∀e2,bL q.d e2=bL (rs.map RL.d) e2)∧ew 10000000000 q.rs∧q.rs.length≤1000000000000∧Sat W w' [q.ch 206 3 219]:=by
 refine bS Tryz.func358 [0] ?_;have O:=Sat.start W;have hrl:=oz (rs.map fun r=>r.p.d);intro a I;rw[List.length_map]at hrl;refine rC 10 I ?_;clear I a;refine uF rfl (gk _ A c rs (hR.sat O) (fun r h=>(hE r h).sat O) hB hl) ?_;rintro e w ⟨rfl,hT⟩;rw[if_pos hF];replace O:Sat _ _ _:=O.ag hT;clear hT;refine u1 7 (dz (aD rfl rfl) (by omega)) ?_;refine uN cY O ?_;clear O;intro b4 w O;refine uO 14 ?_;intro a I
 refine wp_loop_ghost (fun (mm:Nat) a w=>∃(i:Nat) (out:List RL) (Ao:Option Addr) (co:Nat) (al:PL),Ag a 89 [(0,.slice A (rs).length c),(4,.pointer (some ⟨b4,0,none⟩)),(5,.slice Ao (out).length co),(6,.int .i64 ((i:Nat):Int))]∧Sat W w ([a6 b4 (.cells #[.slice al.va al.d.vec.length al.vc,.slice al.ca al.d.ab.length al.cc] 63),rm 206 Ao co out,fN 3 219 out])∧(i≤rs.length)∧(oT (rs.map RL.d) i (out.map RL.d) al.d)∧(out.length≤i)∧(∀x∈out,x.p.d.vec.length≤16∧x.p.d.ab.length≤9900000000∧(x.cM={ data:=#[] }→x.p.d.ab.length≤300000000))∧(al.d=⟨[],[]⟩∨∃x∈out,x.p=al)∧(al.d.ab.length≤300000000)∧mm=rs.length-i) rs.length ?_ ?_
 ·replace I:=I.kp [0,4,5,6] rfl;exact⟨0,[],none,0,⟨none,0,none,0,⟨[],[]⟩⟩,I,((O.gX.ba 206 3).p 2),(by omega),(by exact BL _),(by simp),(by intro x hx;cases hx),(by exact .inl rfl),(by simp),by omega⟩
 intro m a w hI;clear O I;obtain⟨i,out,Ao,co,al,I,O,hi,hF1,hol,hsm,hal,hac,rfl⟩:=hI;refine rC 5 I ?_;clear I a;refine u1 0 (ak rfl dk) ?_;refine aJ 0 0 (aq rfl rfl) ?_ ?_
 ·intro h16;obtain⟨x0,hx0⟩:∃x,rs[i]?=some x:=⟨_,List.getElem?_eq_getElem (by omega)⟩;obtain⟨A_p,rfl⟩:∃q,A=some q:=(hR.sat O).au (by omega);refine uO 19 ?_;intro a I;refine wp_loop_ghost (fun (mm:Nat) a w=>∃(j:Nat) (ps:List PL) (Ap:Option Addr) (cp:Nat),Ag a 89 [(0,.slice (some A_p) (rs).length c),(4,.pointer (some ⟨b4,0,none⟩)),(5,.slice Ao (out).length co),(6,.int .i64 ((i:Nat):Int)),(7,.int .i64 ((j:Nat):Int)),(8,.slice Ap (ps).length cp)]∧Sat W w ([row 63 2 (.slice Ap ps.length cp) ps.length (ps.flatMap s4),a6 b4 (.cells #[.slice al.va al.d.vec.length al.vc,.slice al.ca al.d.ab.length al.cc] 63),rm 206 Ao co out,fN 3 219 out])∧(i≤j)∧(j≤rs.length)∧(ps=((rs.drop i).take (j-i)).map RL.p)∧(∀x∈(((rs.drop i).take (j-i)).map RL.d),x.cM=x0.cM)∧mm=rs.length-j) (rs.length-i) ?_ ?_
  ·replace I:=I.kp [0,4,5,6,7,8] rfl;exact⟨i,[],none,0,I,(O.ba 63 2),(by omega),(by omega),(by simp),(by simp),by omega⟩
  intro m a w hI;clear O I;obtain⟨j,ps,Ap,cp,I,O,hij,hj,hps,hsk,rfl⟩:=hI;refine rC 2 I ?_;clear I a;intro a I;refine cF (fun w'=>Sat _ w' _) (by kernel_rfl) (by kernel_rfl) O.drew ?_;refine rQ 2 I ?_;clear I a;refine bj 0 (fun w O=>(ak rfl dk)) ?_;intro a I;refine K.sE I rfl rfl rfl (fun w O=>(aq (I.ev rfl) (I.ev rfl))) ?_ ?_
  ·clear I a;intro h21;refine uQ 3 ?_;obtain⟨y,hy⟩:∃zz_,rs[j]?=some zz_:=⟨_,List.getElem?_eq_getElem (by omega)⟩;refine bj 0 (fun w O=>(ix rfl rfl dk cA)) ?_;refine bj 0 (fun w O=>(aC rfl cf)) ?_;refine bj 2 (fun w O=>(an rfl Fa (bQ (hR.sat O) (df hy 0 _ rfl)))) ?_;refine bj 0 (fun w O=>(ix rfl rfl dk cA)) ?_;refine bj 0 (fun w O=>(aC rfl cf)) ?_;refine bj 0 (fun w O=>(an rfl Fa (bQ (hR.sat O) (df hx0 0 _ rfl)))) ?_;intro a I;refine K.oU I (aT I rfl rfl rfl) rfl rfl (fun w O=>(jl (I.ev rfl) (I.ev rfl))) ?_ ?_
   ·clear I a;intro h33;refine uQ 1 ?_;intro a I;refine wpQuiet_nil ?_;clear O;intro w O;refine rE 7 I ?_;clear I a;have hpl:ps.length≤rs.length:=(by rw[hps];simp;omega);refine uO 3 ?_;refine u1 0 (ix rfl rfl dk cA) ?_;refine u1 0 (aC rfl bN) ?_;refine u1 0 (aG (cs:=[.slice y.p.va y.p.d.vec.length y.p.vc,.slice y.p.ca y.p.d.ab.length y.p.cc]) rfl cS aO (fun j u e=>me (hR.sat O) (df hy _ u (oX y j u e)))) ?_;intro a I;refine gF (vss:=[[_,_]]) I rfl rfl fF qo rfl rfl rfl (by simp) rfl O ?_;clear I a O;intro A41 w O;intro a I;refine dq I rfl rfl rfl fF qo rfl (O.p 1) (O.rd.src fF (by simp[Value.oneCell'])) (by omega) (by omega) ?_;clear I a O;intro A42 c42 w hc42 O;refine uO 5 ?_;refine u1 3 (ad rfl rfl) ?_;intro a I;replace I:=I.kp [0,4,5,6,7,8] rfl
    have ep:ps++[y.p]=((rs.drop i).take (j+1-i)).map RL.p:=by rw[zV hy hij,List.map_append,←hps];rfl
    have el:ps.length+1=(ps++[y.p]).length:=by simp
    have hS2:=fQ O el (cs':=(ps++[y.p]).flatMap s4) (by rw[List.flatMap_append];rfl);rw[el]at I;refine⟨rs.length-(j+1),by omega,j+1,ps++[y.p],A42,c42,I,y7 ((((hS2.p 4).p 4).p 4).p 3),by omega,by omega,ep,?_,rfl⟩;rw[zV hy hij,List.map_append];intro z hz;rcases List.mem_append.1 hz with hz | hz
    ·exact hsk z hz
    ·simp at hz;subst hz;exact h33
   ·clear I a;intro h33;have hjlt:i<j:=(by rcases Nat.lt_or_ge i j with h | h;exact h;obtain rfl:j=i:=(by omega);rw[hx0]at hy;cases hy;exact absurd rfl h33);have hEp:∀p∈ps,p.ok W:=fun p hp=>(by rw[hps]at hp;obtain⟨x,hx,rfl⟩:=List.mem_map.1 hp;exact hE x (List.mem_of_mem_drop (List.mem_of_mem_take hx)))
    have hsp:dm (ps.map PL.d)≤16777216:=(by rw[hps,List.map_map];refine Nat.le_trans ?_ hs;rw[List.map_take,List.map_drop];exact zu _ _ _);have hpl:ps.length≤rs.length:=(by rw[hps];simp;omega);refine uQ 1 ?_;intro a I;refine wpQuiet_nil ?_;clear O;intro w O;refine rE 7 I ?_;clear I a;intro a I;refine dx (fun a w=>∃(b9:Nat) (q:PL),Ag a 89 [(0,.slice (some A_p) (rs).length c),(4,.pointer (some ⟨b4,0,none⟩)),(5,.slice Ao (out).length co),(7,.int .i64 ((j:Nat):Int)),(9,.pointer (some ⟨b9,0,none⟩))]∧Sat W w ([a6 b9 (.cells #[.string x0.cM,.slice q.va q.d.vec.length q.vc,.slice q.ca q.d.ab.length q.cc] 206),cq 3 q.va q.vc q.d.vec,bp 219 q.ca q.cc q.d.ab,a6 b4 (.cells #[.slice al.va al.d.vec.length al.vc,.slice al.ca al.d.ab.length al.cc] 63),rm 206 Ao co out,fN 3 219 out])∧(q.d=(iB (ps.map PL.d)))) ?_ ?_
    ·refine bf [9] O (by kernel_rfl) ?_;replace O:=O.drew;refine rX [0,1] I ?_;clear I a;refine bF 2 [] rfl (fun w=>(ix rfl rfl dk cA)) ?_;refine bF 3 [] rfl (fun w=>(aC rfl cf)) ?_;refine cZ 4 [5] rfl (by exact⟨[],O⟩) (fun w hT=>have O:=hT.sat;(an rfl Fa (bQ (hR.sat O) (df hx0 0 _ rfl)))) ?_;intro a I;refine nG 6 8 (by kernel_rfl) ?_ ?_
     ·refine eF I rfl rfl Co rfl (lX _ Ap cp ps (by exact O.rd) (fun p hp=>(hEp p hp).sat O) (by omega) (by omega)) ?_;clear I a;rintro e w ⟨q,rfl,hq,hT⟩;replace O:Sat _ _ (_::_::_):=O.ag hT;clear hT;refine⟨_,rfl,?_⟩;intro a I;refine⟨.inr fun _=>(by exact⟨[_,_],O⟩),?_⟩;refine P1 7 [] I rfl (fun w=>(ar I rfl jx)) ?_;clear I a;intro a I;refine aE 8 (by kernel_rfl) ?_;refine eN I rfl rfl nO O ?_;clear I a O;intro b9 w O;intro a I;refine⟨.inr fun _=>(by exact⟨[_,_,_],O⟩),?_⟩;refine aE 9 (by kernel_rfl) ?_;refine cH (vs:=[_,_,_]) (cs':=[_,_,_]) I rfl rfl rfl cA (by simp[Value.oneCell']) O rfl rfl ?_;clear O;intro w O;refine⟨.inl rfl,?_⟩;refine ah (by kernel_rfl) ?_ _;replace I:=I.kp [0,4,5,7,9] rfl
      first
       | exact⟨b9,q,I,((((((O.p 6).p 6).p 6).p 5).p 5).p 5).cw [_,_,_,_,_,_],(by exact hq)⟩
     ·refine eN I rfl rfl nO O ?_;clear I a O;intro b9 w O;intro a I;refine⟨.inr fun _=>(by exact⟨[_],O⟩),?_⟩;refine aE 6 (by kernel_rfl) ?_;refine eF I rfl rfl Co rfl (lX _ Ap cp ps (by exact (O.p 1).rd) (fun p hp=>(hEp p hp).sat O) (by omega) (by omega)) ?_;clear I a;rintro e w ⟨q,rfl,hq,hT⟩;replace O:Sat _ _ (_::_::_):=O.ag hT;clear hT;refine⟨_,rfl,?_⟩;intro a I;refine⟨.inr fun _=>(by exact⟨[_,_,_],O⟩),?_⟩;refine P1 7 [] I rfl (fun w=>(ar I rfl jx)) ?_;clear I a;intro a I;refine aE 9 (by kernel_rfl) ?_;refine cH (vs:=[_,_,_]) (cs':=[_,_,_]) I rfl rfl rfl cA (by simp[Value.oneCell']) (O.p 2) rfl rfl ?_;clear O;intro w O;refine⟨.inl rfl,?_⟩;refine ah (by kernel_rfl) ?_ _;replace I:=I.kp [0,4,5,7,9] rfl
      first
       | exact⟨b9,q,I,((((((O.p 6).p 6).p 6).p 5).p 5).p 5).cw [_,_,_,_,_,_],(by exact hq)⟩
    ·intro a w hI;clear O I;obtain⟨b9,q,I,O,hq⟩:=hI;have hgp:ps.map PL.d=(((rs.drop i).take (j-i)).map RL.d).map bK.bx:=by rw[hps];simp[List.map_map,Function.comp_def,RL.d]
     have hqc:=zL (ps.map PL.d);rw[←hq]at hqc;have hqv:=hqc.len;have hql:=zO (ps.map PL.d);rw[←hq]at hql;have hgl:(((rs.drop i).take (j-i)).map RL.d)=((rs.map RL.d).drop i).take (j-i):=by rw[List.map_take,List.map_drop]
     rw[hgp,hgl]at hq;rw[hgl]at hsk;refine rC 3 I ?_;clear I a;refine u1 0 (aa rfl cf) ?_;refine u1 0 (ld rfl) ?_;refine aJ 0 0 (jl rfl rfl) ?_ ?_
     ·intro h55;refine uO 4 ?_;refine u1 0 (aa rfl bN) ?_;refine u1 0 (lS (cs:=[_,_]) rfl) ?_;refine uW (vs:=[_,_]) (cs':=[_,_]) rfl rfl aO (O.p 3) ?_;clear O;intro w O;refine uO 5 ?_;refine u1 0 (aa rfl bN) ?_;refine u1 0 (lS (cs:=[_,_]) rfl) ?_;refine uF rfl (gw _ q ⟨(O.p 2).rd,(O.p 3).rd⟩ (by omega)) ?_;rintro e w ⟨rfl,hT⟩;replace O:Sat _ _ _:=O.ag hT;clear hT;generalize h65:(eO q.d)=bb;cases bb
      ·refine u1 5 (aB rfl) ?_;refine u1 0 (lS (cs:=[_,_,_]) rfl) ?_;intro a I;refine gF (vss:=[[_,_,_]]) I rfl rfl dk lW rfl rfl rfl (by simp) rfl O ?_;clear I a O;intro A69 w O;intro a I;refine dq I rfl rfl rfl dk lW rfl (O.p 5) (O.rd.src dk (by simp[Value.oneCell'])) (by omega) (by omega) ?_;clear I a O;intro A70 c70 w hc70 O;refine uO 8 ?_;intro a I;replace I:=I.kp [0,4,5,6] rfl;have hsk0:∀x∈((rs.map RL.d).drop i).take (j-i),x.cM={ data:=#[] }:=fun x hx=>(hsk x hx).trans h55
       have el:out.length+1=(out++[(⟨x0.cM,q⟩:RL)]).length:=by simp
       have hS2:=fQ O el (cs':=(out++[(⟨x0.cM,q⟩:RL)]).flatMap js) (by rw[List.flatMap_append];rfl);have hS3:=gB x0.cM q ((((hS2.p 2).p 6).p 6).p 6);rw[el]at I;have hF2:=Ax hF1 hij hsk0 (by rw[←hq];exact h65);rw[←hq,←h55]at hF2;refine⟨rs.length-j,by omega,j,out++[(⟨x0.cM,q⟩:RL)],A70,c70,q,I,sJ ((hS3.p 2).p 2),hj,?_,by simp;omega,fun x hx=>(by rcases List.mem_append.1 hx with hx | hx;exact hsm x hx;simp at hx;subst hx;exact⟨by dsimp only;omega,by dsimp only;omega,fun _=>(by dsimp only;omega)⟩),?_,by omega,rfl⟩
       ·rw[List.map_append];exact hF2
       ·exact .inr ⟨_,List.mem_append_right _ (List.mem_singleton.2 rfl),rfl⟩
      ·refine u1 10 (aB rfl) ?_;intro a I;replace I:=I.kp [0,4,5,6] rfl;have hsk0:∀x∈((rs.map RL.d).drop i).take (j-i),x.cM={ data:=#[] }:=fun x hx=>(hsk x hx).trans h55
       rw[hq]at h65;have hqe:q.d=⟨[],[]⟩:=by rw[hq];exact vL h65
       have hF2:=xy hF1 hij hsk0 h65;rw[←hq]at hF2;exact⟨rs.length-j,by omega,j,out,Ao,co,q,I,sJ (((O.p 5).p 5).p 2),hj,hF2,by omega,hsm,.inl hqe,by rw[hqe];simp,rfl⟩
     ·intro h55;refine uO 4 ?_;refine u1 0 (aa rfl bN) ?_;refine u1 0 (lS (cs:=[_,_]) rfl) ?_;refine u1 0 (lS (cs:=[_,_]) rfl) ?_;refine uF rfl (rp _ q al ⟨(O.p 1).rd,(O.p 2).rd⟩ (GJ hal (O.p 5)) (by omega) (by omega)) ?_;rintro e w ⟨z,rfl,hz,hT⟩;replace O:Sat _ _ (_::_::_):=O.ag hT;clear hT;have hzv:=(vN q.d al.d).len;rw[←hz]at hzv;have hzl:=sG q.d al.d;rw[←hz]at hzl;refine u1 0 (aa rfl bN) ?_;refine uW (vs:=[_,_]) (cs':=[_,_,_]) rfl rfl aO (O.p 2) ?_;clear O;intro w O;refine uO 5 ?_;refine u1 0 (aa rfl bN) ?_;refine u1 0 (lS (cs:=[_,_]) rfl) ?_;refine uF rfl (gw _ z ⟨(O.p 1).rd,(O.p 2).rd⟩ (by omega)) ?_;rintro e w ⟨rfl,hT⟩;replace O:Sat _ _ _:=O.ag hT;clear hT;generalize h65:(eO z.d)=bb;cases bb
      ·refine u1 5 (aB rfl) ?_;refine u1 0 (lS (cs:=[_,_,_]) rfl) ?_;intro a I;refine gF (vss:=[[_,_,_]]) I rfl rfl dk lW rfl rfl rfl (by simp) rfl O ?_;clear I a O;intro A69 w O;intro a I;refine dq I rfl rfl rfl dk lW rfl (O.p 7) (O.rd.src dk (by simp[Value.oneCell'])) (by omega) (by omega) ?_;clear I a O;intro A70 c70 w hc70 O;refine uO 8 ?_;intro a I;replace I:=I.kp [0,4,5,6] rfl;have el:out.length+1=(out++[(⟨x0.cM,z⟩:RL)]).length:=by simp
       have hS2:=fQ O el (cs':=(out++[(⟨x0.cM,z⟩:RL)]).flatMap js) (by rw[List.flatMap_append];rfl);have hS3:=gB x0.cM z ((((hS2.p 7).p 8).p 6).p 6);rw[el]at I;have hF2:=zX (s:=x0.cM) hF1 hij h55 hsk;rw[←hq,←hz]at hF2;refine⟨rs.length-j,by omega,j,out++[(⟨x0.cM,z⟩:RL)],A70,c70,al,I,sJ ((hS3.p 2).p 2),hj,?_,by simp;omega,fun x hx=>(by rcases List.mem_append.1 hx with hx | hx;exact hsm x hx;simp at hx;subst hx;exact⟨by dsimp only;omega,by dsimp only;omega,fun h=>absurd h h55⟩),?_,by omega,rfl⟩
       ·rw[List.map_append];exact hF2
       ·rcases hal with h | ⟨x,hx,h⟩
        ·exact .inl h
        ·exact .inr ⟨x,List.mem_append_left _ hx,h⟩
      ·refine u1 10 (aB rfl) ?_;intro a I;replace I:=I.kp [0,4,5,6] rfl;rw[hz,hq]at h65;have hF2:=wI hF1 hij hsk h65 h55;exact⟨rs.length-j,by omega,j,out,Ao,co,al,I,sJ (((O.p 7).p 7).p 7),hj,hF2,by omega,hsm,hal,hac,rfl⟩
  ·clear I a;intro h21;have hjlt:i<j:=(by omega);have hEp:∀p∈ps,p.ok W:=fun p hp=>(by rw[hps]at hp;obtain⟨x,hx,rfl⟩:=List.mem_map.1 hp;exact hE x (List.mem_of_mem_drop (List.mem_of_mem_take hx)))
   have hsp:dm (ps.map PL.d)≤16777216:=(by rw[hps,List.map_map];refine Nat.le_trans ?_ hs;rw[List.map_take,List.map_drop];exact zu _ _ _);have hpl:ps.length≤rs.length:=(by rw[hps];simp;omega);refine uQ 13 ?_;intro a I;refine wpQuiet_nil ?_;clear O;intro w O;refine rE 7 I ?_;clear I a;intro a I;refine dx (fun a w=>∃(b9:Nat) (q:PL),Ag a 89 [(0,.slice (some A_p) (rs).length c),(4,.pointer (some ⟨b4,0,none⟩)),(5,.slice Ao (out).length co),(7,.int .i64 ((j:Nat):Int)),(9,.pointer (some ⟨b9,0,none⟩))]∧Sat W w ([a6 b9 (.cells #[.string x0.cM,.slice q.va q.d.vec.length q.vc,.slice q.ca q.d.ab.length q.cc] 206),cq 3 q.va q.vc q.d.vec,bp 219 q.ca q.cc q.d.ab,a6 b4 (.cells #[.slice al.va al.d.vec.length al.vc,.slice al.ca al.d.ab.length al.cc] 63),rm 206 Ao co out,fN 3 219 out])∧(q.d=(iB (ps.map PL.d)))) ?_ ?_
   ·refine bf [9] O (by kernel_rfl) ?_;replace O:=O.drew;refine rX [0,1] I ?_;clear I a;refine bF 2 [] rfl (fun w=>(ix rfl rfl dk cA)) ?_;refine bF 3 [] rfl (fun w=>(aC rfl cf)) ?_;refine cZ 4 [5] rfl (by exact⟨[],O⟩) (fun w hT=>have O:=hT.sat;(an rfl Fa (bQ (hR.sat O) (df hx0 0 _ rfl)))) ?_;intro a I;refine nG 6 8 (by kernel_rfl) ?_ ?_
    ·refine eF I rfl rfl Co rfl (lX _ Ap cp ps (by exact O.rd) (fun p hp=>(hEp p hp).sat O) (by omega) (by omega)) ?_;clear I a;rintro e w ⟨q,rfl,hq,hT⟩;replace O:Sat _ _ (_::_::_):=O.ag hT;clear hT;refine⟨_,rfl,?_⟩;intro a I;refine⟨.inr fun _=>(by exact⟨[_,_],O⟩),?_⟩;refine P1 7 [] I rfl (fun w=>(ar I rfl jx)) ?_;clear I a;intro a I;refine aE 8 (by kernel_rfl) ?_;refine eN I rfl rfl nO O ?_;clear I a O;intro b9 w O;intro a I;refine⟨.inr fun _=>(by exact⟨[_,_,_],O⟩),?_⟩;refine aE 9 (by kernel_rfl) ?_;refine cH (vs:=[_,_,_]) (cs':=[_,_,_]) I rfl rfl rfl cA (by simp[Value.oneCell']) O rfl rfl ?_;clear O;intro w O;refine⟨.inl rfl,?_⟩;refine ah (by kernel_rfl) ?_ _;replace I:=I.kp [0,4,5,7,9] rfl
     first
      | exact⟨b9,q,I,((((((O.p 6).p 6).p 6).p 5).p 5).p 5).cw [_,_,_,_,_,_],(by exact hq)⟩
    ·refine eN I rfl rfl nO O ?_;clear I a O;intro b9 w O;intro a I;refine⟨.inr fun _=>(by exact⟨[_],O⟩),?_⟩;refine aE 6 (by kernel_rfl) ?_;refine eF I rfl rfl Co rfl (lX _ Ap cp ps (by exact (O.p 1).rd) (fun p hp=>(hEp p hp).sat O) (by omega) (by omega)) ?_;clear I a;rintro e w ⟨q,rfl,hq,hT⟩;replace O:Sat _ _ (_::_::_):=O.ag hT;clear hT;refine⟨_,rfl,?_⟩;intro a I;refine⟨.inr fun _=>(by exact⟨[_,_,_],O⟩),?_⟩;refine P1 7 [] I rfl (fun w=>(ar I rfl jx)) ?_;clear I a;intro a I;refine aE 9 (by kernel_rfl) ?_;refine cH (vs:=[_,_,_]) (cs':=[_,_,_]) I rfl rfl rfl cA (by simp[Value.oneCell']) (O.p 2) rfl rfl ?_;clear O;intro w O;refine⟨.inl rfl,?_⟩;refine ah (by kernel_rfl) ?_ _;replace I:=I.kp [0,4,5,7,9] rfl
     first
      | exact⟨b9,q,I,((((((O.p 6).p 6).p 6).p 5).p 5).p 5).cw [_,_,_,_,_,_],(by exact hq)⟩
   ·intro a w hI;clear O I;obtain⟨b9,q,I,O,hq⟩:=hI;have hgp:ps.map PL.d=(((rs.drop i).take (j-i)).map RL.d).map bK.bx:=by rw[hps];simp[List.map_map,Function.comp_def,RL.d]
    have hqc:=zL (ps.map PL.d);rw[←hq]at hqc;have hqv:=hqc.len;have hql:=zO (ps.map PL.d);rw[←hq]at hql;have hgl:(((rs.drop i).take (j-i)).map RL.d)=((rs.map RL.d).drop i).take (j-i):=by rw[List.map_take,List.map_drop]
    rw[hgp,hgl]at hq;rw[hgl]at hsk;refine rC 3 I ?_;clear I a;refine u1 0 (aa rfl cf) ?_;refine u1 0 (ld rfl) ?_;refine aJ 0 0 (jl rfl rfl) ?_ ?_
    ·intro h55;refine uO 4 ?_;refine u1 0 (aa rfl bN) ?_;refine u1 0 (lS (cs:=[_,_]) rfl) ?_;refine uW (vs:=[_,_]) (cs':=[_,_]) rfl rfl aO (O.p 3) ?_;clear O;intro w O;refine uO 5 ?_;refine u1 0 (aa rfl bN) ?_;refine u1 0 (lS (cs:=[_,_]) rfl) ?_;refine uF rfl (gw _ q ⟨(O.p 2).rd,(O.p 3).rd⟩ (by omega)) ?_;rintro e w ⟨rfl,hT⟩;replace O:Sat _ _ _:=O.ag hT;clear hT;generalize h65:(eO q.d)=bb;cases bb
     ·refine u1 5 (aB rfl) ?_;refine u1 0 (lS (cs:=[_,_,_]) rfl) ?_;intro a I;refine gF (vss:=[[_,_,_]]) I rfl rfl dk lW rfl rfl rfl (by simp) rfl O ?_;clear I a O;intro A69 w O;intro a I;refine dq I rfl rfl rfl dk lW rfl (O.p 5) (O.rd.src dk (by simp[Value.oneCell'])) (by omega) (by omega) ?_;clear I a O;intro A70 c70 w hc70 O;refine uO 8 ?_;intro a I;replace I:=I.kp [0,4,5,6] rfl;have hsk0:∀x∈((rs.map RL.d).drop i).take (j-i),x.cM={ data:=#[] }:=fun x hx=>(hsk x hx).trans h55
      have el:out.length+1=(out++[(⟨x0.cM,q⟩:RL)]).length:=by simp
      have hS2:=fQ O el (cs':=(out++[(⟨x0.cM,q⟩:RL)]).flatMap js) (by rw[List.flatMap_append];rfl);have hS3:=gB x0.cM q ((((hS2.p 2).p 6).p 6).p 6);rw[el]at I;have hF2:=Ax hF1 hij hsk0 (by rw[←hq];exact h65);rw[←hq,←h55]at hF2;refine⟨rs.length-j,by omega,j,out++[(⟨x0.cM,q⟩:RL)],A70,c70,q,I,sJ ((hS3.p 2).p 2),hj,?_,by simp;omega,fun x hx=>(by rcases List.mem_append.1 hx with hx | hx;exact hsm x hx;simp at hx;subst hx;exact⟨by dsimp only;omega,by dsimp only;omega,fun _=>(by dsimp only;omega)⟩),?_,by omega,rfl⟩
      ·rw[List.map_append];exact hF2
      ·exact .inr ⟨_,List.mem_append_right _ (List.mem_singleton.2 rfl),rfl⟩
     ·refine u1 10 (aB rfl) ?_;intro a I;replace I:=I.kp [0,4,5,6] rfl;have hsk0:∀x∈((rs.map RL.d).drop i).take (j-i),x.cM={ data:=#[] }:=fun x hx=>(hsk x hx).trans h55
      rw[hq]at h65;have hqe:q.d=⟨[],[]⟩:=by rw[hq];exact vL h65
      have hF2:=xy hF1 hij hsk0 h65;rw[←hq]at hF2;exact⟨rs.length-j,by omega,j,out,Ao,co,q,I,sJ (((O.p 5).p 5).p 2),hj,hF2,by omega,hsm,.inl hqe,by rw[hqe];simp,rfl⟩
    ·intro h55;refine uO 4 ?_;refine u1 0 (aa rfl bN) ?_;refine u1 0 (lS (cs:=[_,_]) rfl) ?_;refine u1 0 (lS (cs:=[_,_]) rfl) ?_;refine uF rfl (rp _ q al ⟨(O.p 1).rd,(O.p 2).rd⟩ (GJ hal (O.p 5)) (by omega) (by omega)) ?_;rintro e w ⟨z,rfl,hz,hT⟩;replace O:Sat _ _ (_::_::_):=O.ag hT;clear hT;have hzv:=(vN q.d al.d).len;rw[←hz]at hzv;have hzl:=sG q.d al.d;rw[←hz]at hzl;refine u1 0 (aa rfl bN) ?_;refine uW (vs:=[_,_]) (cs':=[_,_,_]) rfl rfl aO (O.p 2) ?_;clear O;intro w O;refine uO 5 ?_;refine u1 0 (aa rfl bN) ?_;refine u1 0 (lS (cs:=[_,_]) rfl) ?_;refine uF rfl (gw _ z ⟨(O.p 1).rd,(O.p 2).rd⟩ (by omega)) ?_;rintro e w ⟨rfl,hT⟩;replace O:Sat _ _ _:=O.ag hT;clear hT;generalize h65:(eO z.d)=bb;cases bb
     ·refine u1 5 (aB rfl) ?_;refine u1 0 (lS (cs:=[_,_,_]) rfl) ?_;intro a I;refine gF (vss:=[[_,_,_]]) I rfl rfl dk lW rfl rfl rfl (by simp) rfl O ?_;clear I a O;intro A69 w O;intro a I;refine dq I rfl rfl rfl dk lW rfl (O.p 7) (O.rd.src dk (by simp[Value.oneCell'])) (by omega) (by omega) ?_;clear I a O;intro A70 c70 w hc70 O;refine uO 8 ?_;intro a I;replace I:=I.kp [0,4,5,6] rfl;have el:out.length+1=(out++[(⟨x0.cM,z⟩:RL)]).length:=by simp
      have hS2:=fQ O el (cs':=(out++[(⟨x0.cM,z⟩:RL)]).flatMap js) (by rw[List.flatMap_append];rfl);have hS3:=gB x0.cM z ((((hS2.p 7).p 8).p 6).p 6);rw[el]at I;have hF2:=zX (s:=x0.cM) hF1 hij h55 hsk;rw[←hq,←hz]at hF2;refine⟨rs.length-j,by omega,j,out++[(⟨x0.cM,z⟩:RL)],A70,c70,al,I,sJ ((hS3.p 2).p 2),hj,?_,by simp;omega,fun x hx=>(by rcases List.mem_append.1 hx with hx | hx;exact hsm x hx;simp at hx;subst hx;exact⟨by dsimp only;omega,by dsimp only;omega,fun h=>absurd h h55⟩),?_,by omega,rfl⟩
      ·rw[List.map_append];exact hF2
      ·rcases hal with h | ⟨x,hx,h⟩
       ·exact .inl h
       ·exact .inr ⟨x,List.mem_append_left _ hx,h⟩
     ·refine u1 10 (aB rfl) ?_;intro a I;replace I:=I.kp [0,4,5,6] rfl;rw[hz,hq]at h65;have hF2:=wI hF1 hij hsk h65 h55;exact⟨rs.length-j,by omega,j,out,Ao,co,al,I,sJ (((O.p 7).p 7).p 7),hj,hF2,by omega,hsm,hal,hac,rfl⟩
 ·intro h16;obtain rfl:i=rs.length:=by omega
  intro a I;rw[show rs.length=(rs.map RL.d).length from by simp]at hF1;have hcov:=hF1.Jo;rw[List.take_length]at hcov;refine rO 8 I ?_;clear I a;intro a I;replace I:=I.kp [5] rfl;refine rC 4 I ?_;clear I a;refine u1 0 (ak rfl dk) ?_;refine aJ 0 0 (cG rfl rfl) ?_ ?_
  ·intro h74;refine uO 2 ?_;obtain⟨Ao_p,rfl⟩:∃q,Ao=some q:=(O.p 1).rd.au (by omega);obtain⟨x1,hx1⟩:∃zz_,out[0]?=some zz_:=⟨_,List.getElem?_eq_getElem (by omega)⟩;refine u1 0 (ix rfl rfl dk cA) ?_;refine u1 0 (aC rfl cf) ?_;refine u1 0 (an rfl Fa (bQ (O.p 1).rd (df hx1 0 _ rfl))) ?_;refine aJ 0 0 (jl rfl rfl) ?_ ?_
   ·intro h80;refine uO 7 ?_;refine u1 0 (ix rfl rfl dk cA) ?_;refine u1 0 (aG (cs:=js x1) rfl lZ cA (fun j u e=>bQ (O.p 1).rd (df hx1 j u e))) ?_;refine uF rfl (qV _ x1 (oE (O.p 2) x1 (List.mem_of_getElem? hx1)) (by have:=hsm x1 (List.mem_of_getElem? hx1);omega)) ?_;rintro e w ⟨q,rfl,hq,hT⟩;replace O:Sat _ _ (_::_::_):=O.ag hT;clear hT;refine u1 0 (ix rfl rfl dk cA) ?_;intro a I;refine G6 (0 * 3) (vs:=[_,_,_]) I rfl rfl rfl cA (by simp[Value.oneCell']) (O.p 3) (by rw[oy tM];simp;omega) ?_;clear O;intro w O;refine rO 10 I ?_;clear I a;refine fo ?_;have hx1m:=List.mem_of_getElem? hx1;obtain⟨hx1s,_,hx1t⟩:=hsm x1 hx1m;have hx1u:=hx1t h80;have hS2:=fQ O rfl (uP tM (xs:=out) (i:=0) (⟨x1.cM,q⟩:RL) (by omega));have hS3:=E6 x1.cM q hx1 (((hS2.p 4).p 3).p 3)
    have hql:=jP x1.p.d;rw[←hq]at hql;have hqv:=(i6 x1.p.d).len;rw[←hq]at hqv;refine⟨⟨some Ao_p,co,out.set 0 ⟨x1.cM,q⟩⟩,by simp,fun e2=>?_,?_,?_,gy (nm (fQ (hS3.p 1) (by simp) rfl))⟩
    ·show bL ((out.set 0 ⟨x1.cM,q⟩).map RL.d) e2=_;rw[Gi hx1 hq];exact hcov e2
    ·intro x hx;rcases List.mem_or_eq_of_mem_set hx with hx | rfl
     ·have:=hsm x hx;omega
     ·exact⟨by dsimp only;omega,by dsimp only;omega⟩
    ·show (out.set 0 ⟨x1.cM,q⟩).length≤_;rw[List.length_set];omega
   ·intro h80;refine uO 14 ?_;refine fo ?_;refine⟨⟨some Ao_p,co,out⟩,rfl,fun e2=>?_,?_,?_,gy (nm ((O.p 2).p 2))⟩
    ·show bL (out.map RL.d) e2=_;exact hcov e2
    ·intro x hx;have:=hsm x hx;omega
    ·show out.length≤_;omega
  ·intro h74;refine uO 20 ?_;refine fo ?_;refine⟨⟨Ao,co,out⟩,rfl,fun e2=>?_,?_,?_,gy (nm ((O.p 2).p 2))⟩
   ·show bL (out.map RL.d) e2=_;exact hcov e2
   ·intro x hx;have:=hsm x hx;omega
   ·show out.length≤_;omega
theorem yU (W:World)(B:Option Addr)(d:Nat)(xs:List aS)(A:Option Addr)(c:Nat)(rs:List RL)(hX:iz W B d xs)(hlx:xs.length≤1000000000000)(hEx:bP xs=true)(hR:iF W A c rs)(hE:∀r∈rs,r.p.ok W)(hB:ew 10000000000 rs)(hl:rs.length≤1000000000000)(hs:dm (rs.map fun r=>r.p.d)≤16777216)(hF:bZ (rs.map RL.d)=true):Calls Tryz.prog 346 #[.slice B (xs).length d,.slice A (rs).length c] W fun e w'=>∃A' c',e=.returned (.tuple #[.slice A' (xs.filter (fun e2=>!bL (rs.map RL.d) e2)).length c',.int .i64 0])∧Sat W w' [fJ 216 A' c' (xs.filter (fun e2=>!bL (rs.map RL.d) e2))]:=by
 refine bS Tryz.func346 [0,1] ?_;have O:=Sat.start W;refine uC 10 ?_;refine uF rfl (jr _ B d xs (hX.sat O) hlx) ?_;rintro e w ⟨rfl,hT⟩;rw[if_pos hEx];replace O:Sat _ _ _:=O.ag hT;clear hT;refine u1 2 (dz (aD rfl rfl) (by omega)) ?_;refine iV rfl (gk _ A c rs (hR.sat O) (fun r h=>(hE r h).sat O) hB hl) ?_;rintro e w ⟨rfl,hT⟩;rw[if_pos hF];replace O:Sat _ _ _:=O.ag hT;clear hT;refine u1 9 (dz (aD rfl rfl) (by omega)) ?_;refine uF rfl (BH _ A c rs (hR.sat O) (fun r h=>(hE r h).sat O) hB hl hs hF) ?_;rintro e w ⟨q,rfl,hqc,hqs,hql,hT⟩;replace O:=O.aM hT;clear hT;refine uO 1 ?_;refine u1 0 (ai rfl rfl) ?_;refine u1 13 (ai rfl rfl) ?_;refine u1 3 (ak rfl bC) ?_;intro a I;replace I:=I.kp [4,5,6,8,24,25,26] rfl;refine rC 1 I ?_;clear I a;intro a I
 refine wp_loop_ghost (fun (mm:Nat) a w=>∃(i:Nat) (out:List aS) (Ao:Option Addr) (co:Nat),Ag a 40 [(6,.slice q.a q.rs.length q.c),(8,.slice Ao (out).length co),(24,.slice B (xs).length d),(25,.int .i64 ((xs.length:Nat):Int)),(26,.int .i64 ((i:Nat):Int))]∧Sat W w ([fJ 216 Ao co out,q.ch 206 3 219])∧(i≤xs.length)∧(out=(xs.take i).filter (fun e2=>!bL (rs.map RL.d) e2))∧(out.length≤i)∧mm=xs.length-i) xs.length ?_ ?_
 ·replace I:=I.kp [6,8,24,25,26] rfl;exact⟨0,[],none,0,I,(O.ba 216 4),(by omega),(by rfl),(by simp),by omega⟩
 intro m a w hI;clear O I;obtain⟨i,out,Ao,co,I,O,hi,ho,hol,rfl⟩:=hI;refine rC 2 I ?_;clear I a;refine aJ 0 0 (aq rfl rfl) ?_ ?_
 ·intro h27;refine uO 10 ?_;obtain⟨B_p,rfl⟩:∃q,B=some q:=(hX.sat O).au (by omega);obtain⟨x,hx⟩:∃zz_,xs[i]?=some zz_:=⟨_,List.getElem?_eq_getElem (by omega)⟩;refine u1 0 (ix rfl rfl bC dH) ?_;refine u1 0 (aG (cs:=lG x) rfl ry dH (fun j u e=>bQ (hX.sat O) (de hx j u e))) ?_;refine uN EU O ?_;clear O;intro b10 w O;refine uW (vs:=[_,_,_,_]) (cs':=[_,_,_,_]) rfl rfl dH O ?_;clear O;intro w O;refine uO 5 ?_;refine u1 0 (lS (cs:=[_,_,_,_]) rfl) ?_;intro a I;refine Ht I rfl IM rfl (By _ q.a q.c q.rs x (jv.sD (O.p 2)).top (fun r h=>(jv.sD (O.p 2)).each r h) hqs hql) ?_;clear I a;rintro e w ⟨rfl,hT⟩;replace O:Sat _ _ _:=O.ag hT;clear hT;refine⟨_,rfl,?_⟩;refine aJ 0 0 (aU rfl rfl) ?_ ?_
  ·intro h33;refine uO 5 ?_;refine u1 0 (lS (cs:=[_,_,_,_]) rfl) ?_;intro a I;refine gF (vss:=[[_,_,_,_]]) I rfl rfl bC gE rfl rfl rfl (by simp) rfl O ?_;clear I a O;intro A36 w O;intro a I;refine dq I rfl rfl rfl bC gE rfl (O.p 2) (O.rd.src bC (by simp[Value.oneCell'])) (by omega) (by omega) ?_;clear I a O;intro A37 c37 w hc37 O;refine uO 5 ?_;refine u1 2 (ad rfl rfl) ?_;intro a I;replace I:=I.kp [6,8,24,25,26] rfl;have ef:=iM (p:=fun e2=>!bL (rs.map RL.d) e2) hx;have hqx:bL (q.rs.map RL.d) x=bL (rs.map RL.d) x:=hqc x;rw[if_pos (by rw[←hqx,Bool.not_eq_true'];exact uu.1 (by omega))]at ef;have el:out.length+1=(out++[x]).length:=by simp
   have hS2:=fQ O el (cs':=(out++[x]).flatMap lG) (by rw[List.flatMap_append];rfl);rw[el]at I;exact⟨xs.length-(i+1),by omega,i+1,out++[x],A37,c37,I,n5 ((hS2.p 3).p 1),by omega,by rw[ho,ef],by simp;omega,rfl⟩
  ·intro h33;refine uO 7 ?_;refine u1 2 (ad rfl rfl) ?_;intro a I;replace I:=I.kp [6,8,24,25,26] rfl;have ef:=iM (p:=fun e2=>!bL (rs.map RL.d) e2) hx;have hqx:bL (q.rs.map RL.d) x=bL (rs.map RL.d) x:=hqc x;rw[if_neg (by rw[←hqx];intro h;rw[Bool.not_eq_true']at h;exact h33 (by rw[uu.2 h];rfl)),List.append_nil]at ef;exact⟨xs.length-(i+1),by omega,i+1,out,Ao,co,I,O.drop,by omega,by rw[ef];exact ho,by omega,rfl⟩
 ·intro h27;refine uO 17 ?_;refine fo ?_;obtain rfl:i=xs.length:=by omega
  rw[List.take_length]at ho;subst ho;exact⟨_,_,rfl,gy O⟩
def aH (s:iR):Bool:=bP s.jn && (bg s.bx && bZ s.mw)
def bD (s:iR):Bool:=aH s && (ck (mg (s.jn.map aS.dot)) s.bx && ((s.mw.all fun r=>!ck r.bx s.bx) && (s.jn.all fun e=>!bL s.mw e)))
structure kQ (s:SL):Prop where
 es:s.e.es.length≤16777216
 pv:s.p.d.vec.length≤1000000000000
 pc:s.p.d.ab.length≤16777216
 rv:∀r∈s.r.rs,r.p.d.vec.length≤1000000000000
 rs:dm (s.r.rs.map fun r=>r.p.d)≤16777216
theorem qM {ps:List aI}{p:aI}(h:p∈ps):p.ab.length+1≤dm ps:=by
 induction ps with
 | nil=>cases h
 | cons q ps ih =>
   unfold dm at *;rw[List.map_cons,List.sum_cons];rcases List.mem_cons.1 h with rfl | h
   ·
    omega
   ·
    have:=ih h;omega
theorem gV {rs:List RL}{n:Nat}(hv:∀r∈rs,r.p.d.vec.length≤1000000000000)(hs:dm (rs.map fun r=>r.p.d)≤n):ew n rs:=fun r hr=>⟨hv r hr,by have:=qM (List.mem_map.2 ⟨r,hr,rfl⟩:r.p.d∈rs.map fun r=>r.p.d);omega⟩
theorem ew.mono {m n:Nat}{rs:List RL}(h:ew m rs)(hm:m≤n):ew n rs:=fun r hr=>⟨(h r hr).1,Nat.le_trans (h r hr).2 hm⟩
theorem nr {rs:List RL}{n:Nat}(hs:dm (rs.map fun r=>r.p.d)≤n):rs.length≤n:=by
 have:=oz (rs.map fun r=>r.p.d);rw[List.length_map]at this;omega
theorem all_filter {α:Type}(p:α→Bool):∀l:List α,((l.filter p).length=l.length)↔l.all p=true:=fun l=>by
 rw[List.all_eq_true];exact List.length_filter_eq_length_iff
theorem E0 (rs:List bK)(es:List aS):(es.all fun e=>!bL rs e)=rs.all fun r=>es.all fun e=>!hU r e:=by
 rw[Bool.eq_iff_iff];simp only[List.all_eq_true,Bool.not_eq_true'];constructor
 ·
  intro h r hr e he;have:=h e he;unfold bL at this;rw[List.any_eq_false]at this;simpa using this r hr
 ·
  intro h e he;unfold bL;rw[List.any_eq_false];intro r hr;simpa using h r hr e he
theorem Cf {α:Type}(p q:α→Bool):∀l:List α,(l.all p && l.all q)=l.all fun x=>p x && q x
 | []=>rfl
 | x :: l => by
   rw[List.all_cons,List.all_cons,List.all_cons,←Cf p q l];cases p x<;>cases q x<;>simp
theorem zT {α:Type}{p:α→Bool}{xs:List α}{i:Nat}{x:α}(h:xs[i]?=some x):(xs.take (i+1)).all p=((xs.take i).all p && p x):=by
 rw[aF h,List.all_append];simp
theorem Bv {α:Type}{p:α→Bool}{xs:List α}{i:Nat}{x:α}(h:xs[i]?=some x)(hp:p x=false):xs.all p=false:=by
 rw[List.all_eq_false];exact⟨x,List.mem_of_getElem? h,by rw[hp];simp⟩
theorem Aq (xs:List aS):(mg (xs.map aS.dot)).ab.length≤16 * (xs.length+1):=by
 have:=jP ⟨[],(xs.map aS.dot).map fun d=>⟨d.rep,d.num,d.num⟩⟩;unfold mg;simpa using this
theorem zZ (xs:List aS):(mg (xs.map aS.dot)).vec.length≤16:=(i6 _).len
theorem tI (rs:List bK)(es:List aS)(p:aI):((rs.all fun r=>!ck r.bx p) && (es.all fun e=>!bL rs e))=rs.all fun r=>!ck r.bx p && es.all fun e=>!hU r e:=by
 rw[E0,Cf]
theorem Hf {x y:RL}(h1:x.cM=y.cM)(h2:x.p.d=y.p.d):x.d=y.d:=by unfold RL.d;rw[h1,h2]
theorem EJ {a b:iR}(h1:a.jn=b.jn)(h2:a.bx=b.bx)(h3:a.mw=b.mw):a=b:=by cases a;cases b;simp only at h1 h2 h3;subst h1 h2 h3;rfl
theorem yl (W:World)(s:SL)(hp:s.ok W)(hs:kQ s):Calls Tryz.prog 433 #[.agg #[.slice s.e.a s.e.es.length s.e.c,.slice s.p.va s.p.d.vec.length s.p.vc,.slice s.p.ca s.p.d.ab.length s.p.cc,.slice s.r.a s.r.rs.length s.r.c]] W fun e w'=>e=.returned (.int .i64 (if aH s.d=true then 0 else 1))∧Sat W w' []:=by
 refine bS Tryz.func433 [0] ?_;have O:=Sat.start W;obtain⟨⟨ea,ec,es⟩,p,⟨ra,rc,rs⟩⟩:=s;have he:iz W ea ec es:=hp.e;have hpp:p.ok W:=hp.p;have hrt:iF W ra rc rs:=hp.r.top;have hre:∀r∈rs,r.p.ok W:=hp.r.each;have hel:es.length≤16777216:=hs.es;have hpv:p.d.vec.length≤1000000000000:=hs.pv;have hpc:p.d.ab.length≤16777216:=hs.pc;have hrs:dm (rs.map fun r=>r.p.d)≤16777216:=hs.rs;have hrb:ew 10000000000 rs:=(gV hs.rv hrs).mono (by decide);have hrl:=nr hrs;refine uC 2 ?_;refine uB rfl O ?_;clear O;intro b1 w O;refine uO 6 ?_;refine u1 0 (aa rfl vP) ?_;refine u1 0 (ld rfl) ?_;refine uF rfl (jr _ ea ec es (he.sat O) (by omega)) ?_;rintro e w ⟨rfl,hT⟩;replace O:Sat _ _ _:=O.ag hT;clear hT;refine aJ 0 0 (aD rfl rfl) ?_ ?_
 ·intro h6;refine uO 22 ?_;refine aY ?_;refine⟨?_,O.nil⟩;unfold aH SL.d jv.d;dsimp only;rw[show bP es=false from by simpa using h6];rfl
 ·intro h6;refine uO 1 ?_;refine u1 0 (aa rfl vI) ?_;refine u1 0 (lS (cs:=[_,_]) rfl) ?_;refine iV rfl (gx _ p (hpp.sat O) (by omega) hpv) ?_;rintro e w ⟨rfl,hT⟩;replace O:Sat _ _ _:=O.ag hT;clear hT;generalize h10:(bg p.d)=bb;cases bb
  ·refine u1 17 (aB rfl) ?_;refine aY ?_;refine⟨?_,O.nil⟩;unfold aH SL.d jv.d;dsimp only;rw[show bP es=true from by simpa using h6,h10];rfl
  ·refine u1 2 (aB rfl) ?_;refine u1 0 (aa rfl vv) ?_;refine u1 0 (ld rfl) ?_;refine iV rfl (gk _ ra rc rs (hrt.sat O) (fun r h=>(hre r h).sat O) hrb (by omega)) ?_;rintro e w ⟨rfl,hT⟩;replace O:Sat _ _ _:=O.ag hT;clear hT;refine aJ 0 0 (aD rfl rfl) ?_ ?_
   ·intro h17;refine uO 11 ?_;refine aY ?_;refine⟨?_,O.nil⟩;unfold aH SL.d jv.d;dsimp only;rw[show bP es=true from by simpa using h6,h10,show bZ (rs.map RL.d)=false from by simpa using h17];rfl
   ·intro h17;refine uO 12 ?_;refine aY ?_;refine⟨?_,O.nil⟩;unfold aH SL.d jv.d;dsimp only;rw[show bP es=true from by simpa using h6,h10,show bZ (rs.map RL.d)=true from by simpa using h17];rfl
theorem pQ (W:World)(s:SL)(hp:s.ok W)(hs:kQ s):Calls Tryz.prog 141 #[.agg #[.slice s.e.a s.e.es.length s.e.c,.slice s.p.va s.p.d.vec.length s.p.vc,.slice s.p.ca s.p.d.ab.length s.p.cc,.slice s.r.a s.r.rs.length s.r.c]] W fun e w'=>e=.returned (.int .i64 (if aH s.d=true then 0 else 1))∧Sat W w' []:=by
 refine bS Tryz.func141 [0] ?_;have O:=Sat.start W;obtain⟨⟨ea,ec,es⟩,p,⟨ra,rc,rs⟩⟩:=s;have he:iz W ea ec es:=hp.e;have hpp:p.ok W:=hp.p;have hrt:iF W ra rc rs:=hp.r.top;have hre:∀r∈rs,r.p.ok W:=hp.r.each;have hel:es.length≤16777216:=hs.es;have hpv:p.d.vec.length≤1000000000000:=hs.pv;have hpc:p.d.ab.length≤16777216:=hs.pc;have hrs:dm (rs.map fun r=>r.p.d)≤16777216:=hs.rs;have hrb:ew 10000000000 rs:=(gV hs.rv hrs).mono (by decide);have hrl:=nr hrs;refine uC 2 ?_;refine uB rfl O ?_;clear O;intro b1 w O;refine uO 6 ?_;refine u1 0 (aa rfl vP) ?_;refine u1 0 (ld rfl) ?_;refine uF rfl (wu _ ea ec es (he.sat O) (by omega)) ?_;rintro e w ⟨rfl,hT⟩;replace O:Sat _ _ _:=O.ag hT;clear hT;refine aJ 0 0 (aD rfl rfl) ?_ ?_
 ·intro h6;refine uO 22 ?_;refine aY ?_;refine⟨?_,O.nil⟩;unfold aH SL.d jv.d;dsimp only;rw[show bP es=false from by simpa using h6];rfl
 ·intro h6;refine uO 1 ?_;refine u1 0 (aa rfl vI) ?_;refine u1 0 (lS (cs:=[_,_]) rfl) ?_;refine iV rfl (eG _ p (hpp.sat O) (by omega) hpv) ?_;rintro e w ⟨rfl,hT⟩;replace O:Sat _ _ _:=O.ag hT;clear hT;generalize h10:(bg p.d)=bb;cases bb
  ·refine u1 17 (aB rfl) ?_;refine aY ?_;refine⟨?_,O.nil⟩;unfold aH SL.d jv.d;dsimp only;rw[show bP es=true from by simpa using h6,h10];rfl
  ·refine u1 2 (aB rfl) ?_;refine u1 0 (aa rfl vv) ?_;refine u1 0 (ld rfl) ?_;refine iV rfl (kF _ ra rc rs (hrt.sat O) (fun r h=>(hre r h).sat O) hrb (by omega)) ?_;rintro e w ⟨rfl,hT⟩;replace O:Sat _ _ _:=O.ag hT;clear hT;refine aJ 0 0 (aD rfl rfl) ?_ ?_
   ·intro h17;refine uO 11 ?_;refine aY ?_;refine⟨?_,O.nil⟩;unfold aH SL.d jv.d;dsimp only;rw[show bP es=true from by simpa using h6,h10,show bZ (rs.map RL.d)=false from by simpa using h17];rfl
   ·intro h17;refine uO 12 ?_;refine aY ?_;refine⟨?_,O.nil⟩;unfold aH SL.d jv.d;dsimp only;rw[show bP es=true from by simpa using h6,h10,show bZ (rs.map RL.d)=true from by simpa using h17];rfl
theorem xX (W:World)(s:SL)(hp:s.ok W)(hs:kQ s):Calls Tryz.prog 343 #[.agg #[.slice s.e.a s.e.es.length s.e.c,.slice s.p.va s.p.d.vec.length s.p.vc,.slice s.p.ca s.p.d.ab.length s.p.cc,.slice s.r.a s.r.rs.length s.r.c]] W fun e w'=>e=.returned (.int .i64 (if bD s.d=true then 0 else 1))∧Sat W w' []:=by
 refine bS Tryz.func343 [0] ?_;have O:=Sat.start W;obtain⟨⟨ea,ec,es⟩,p,⟨ra,rc,rs⟩⟩:=s;have he:iz W ea ec es:=hp.e;have hpp:p.ok W:=hp.p;have hrt:iF W ra rc rs:=hp.r.top;have hre:∀r∈rs,r.p.ok W:=hp.r.each;have hel:es.length≤16777216:=hs.es;have hpv:p.d.vec.length≤1000000000000:=hs.pv;have hpc:p.d.ab.length≤16777216:=hs.pc;have hrs:dm (rs.map fun r=>r.p.d)≤16777216:=hs.rs;have hrb:ew 10000000000 rs:=(gV hs.rv hrs).mono (by decide);have hrl:=nr hrs;refine uC 2 ?_;refine uB rfl O ?_;clear O;intro b1 w O;refine uO 6 ?_;refine u1 0 (aa rfl lz) ?_;refine u1 0 (ld rfl) ?_;refine uF rfl (jr _ ea ec es (he.sat O) (by omega)) ?_;rintro e w ⟨rfl,hT⟩;replace O:Sat _ _ _:=O.ag hT;clear hT;refine aJ 0 0 (aD rfl rfl) ?_ ?_
 ·intro h12;refine uO 22 ?_;refine aY ?_;refine⟨?_,O.nil⟩;unfold bD aH SL.d jv.d;dsimp only;rw[show bP es=false from by simpa using h12];rfl
 ·intro h12;refine uO 1 ?_;refine u1 0 (aa rfl ni) ?_;refine u1 0 (lS (cs:=[_,_]) rfl) ?_;refine iV rfl (gx _ p (hpp.sat O) (by omega) hpv) ?_;rintro e w ⟨rfl,hT⟩;replace O:Sat _ _ _:=O.ag hT;clear hT;generalize h16:(bg p.d)=bb;cases bb
  ·refine u1 17 (aB rfl) ?_;refine aY ?_;refine⟨?_,O.nil⟩;unfold bD aH SL.d jv.d;dsimp only;rw[show bP es=true from by simpa using h12,h16];rfl
  ·refine u1 2 (aB rfl) ?_;refine u1 0 (aa rfl lD) ?_;refine u1 0 (ld rfl) ?_;refine iV rfl (gk _ ra rc rs (hrt.sat O) (fun r h=>(hre r h).sat O) hrb (by omega)) ?_;rintro e w ⟨rfl,hT⟩;replace O:Sat _ _ _:=O.ag hT;clear hT;refine aJ 0 0 (aD rfl rfl) ?_ ?_
   ·intro h23;refine uO 11 ?_;refine aY ?_;refine⟨?_,O.nil⟩;unfold bD aH SL.d jv.d;dsimp only;rw[show bP es=true from by simpa using h12,h16,show bZ (rs.map RL.d)=false from by simpa using h23];rfl
   ·intro h23;refine uO 9 ?_;refine u1 0 (aa rfl lz) ?_;refine u1 0 (ld rfl) ?_;refine uF rfl (zM _ ea ec es (he.sat O) (by omega) (by simpa using h12)) ?_;rintro e w ⟨q,rfl,hq,hT⟩;have hql:=Aq es;rw[←hq]at hql;have hqv:=zZ es;rw[←hq]at hqv;replace O:Sat _ _ (_::_::_):=O.ag hT;clear hT;refine uO 1 ?_;refine u1 0 (ai rfl rfl) ?_;refine u1 0 (ai rfl rfl) ?_;refine uN cY O ?_;clear O;intro b3 w O;refine uW (vs:=[_,_]) (cs':=[_,_]) rfl rfl aO O ?_;clear O;intro w O;refine uO 5 ?_;refine u1 0 (lS (cs:=[_,_]) rfl) ?_;refine u1 0 (aa rfl ni) ?_;refine u1 0 (lS (cs:=[_,_]) rfl) ?_;refine uF rfl (pM _ q p ⟨(O.p 1).rd,(O.p 2).rd⟩ (hpp.sat O) (by omega) (by omega)) ?_;rintro e w ⟨rfl,hT⟩;replace O:Sat _ _ _:=O.ag hT;clear hT;generalize h34:(ck q.d p.d)=bb;cases bb
    ·refine u1 2 (aB rfl) ?_;intro a I;replace I:=I.kp [1,2,35] rfl;refine rC 8 I ?_;clear I a;refine aY ?_;refine⟨?_,O.nil⟩;unfold bD aH SL.d jv.d;dsimp only;rw[show bP es=true from by simpa using h12,h16,show bZ (rs.map RL.d)=true from by simpa using h23,←hq,h34];simp
    ·refine u1 2 (aB rfl) ?_;intro a I;replace I:=I.kp [1,2,35] rfl;refine rC 6 I ?_;clear I a;refine u1 0 (aa rfl lD) ?_;refine u1 0 (ld rfl) ?_;refine u1 0 (aa rfl ni) ?_;refine u1 0 (lS (cs:=[_,_]) rfl) ?_;refine uF rfl (zN _ ra rc rs p (hrt.sat O) (fun r h=>(hre r h).sat O) hrb (by omega) (hpp.sat O) hpv (by omega) (by simpa using h23) h16) ?_;rintro e w ⟨z,rfl,hz,hT⟩;replace O:=O.aM hT;clear hT;refine uO 1 ?_;refine u1 0 (ai rfl rfl) ?_;refine u1 7 (ai rfl rfl) ?_;refine u1 0 (ak rfl dk) ?_;refine u1 0 (aa rfl lD) ?_;refine u1 0 (ld rfl) ?_;refine u1 0 (ak rfl dk) ?_;refine aJ 0 0 (aD rfl rfl) ?_ ?_
     ·intro h49;intro a I;dsimp only at h49;refine rO 10 I ?_;clear I a;refine aY ?_;refine⟨?_,O.nil⟩;unfold bD aH SL.d jv.d;dsimp only
      rw[show bP es=true from by simpa using h12,h16,show bZ (rs.map RL.d)=true from by simpa using h23,←hq,h34,show ((rs.map RL.d).all fun r=>!ck r.bx p.d)=false from by
       rw[Bool.eq_false_iff,ne_eq,←all_filter];have hl:=congrArg List.length hz;rw[show z.d.length=z.rs.length from by simp[jv.d]]at hl;rw[←hl,List.length_map];omega];simp
     ·intro h49;intro a I;dsimp only at h49;refine rO 8 I ?_;clear I a;refine u1 0 (aa rfl lz) ?_;refine u1 0 (ld rfl) ?_;refine u1 0 (aa rfl lD) ?_;refine u1 0 (ld rfl) ?_;refine uF rfl (yU _ ea ec es ra rc rs (he.sat O) (by omega) (by simpa using h12) (hrt.sat O) (fun r h=>(hre r h).sat O) hrb (by omega) hrs (by simpa using h23)) ?_;rintro e w ⟨A55,c55,rfl,hT⟩;replace O:=O.aM hT;clear hT;refine uO 1 ?_;refine u1 0 (ai rfl rfl) ?_;refine u1 4 (ai rfl rfl) ?_;intro a I;replace I:=I.kp [1,2,7] rfl;refine rC 3 I ?_;clear I a;refine u1 0 (ak rfl bC) ?_;refine u1 0 (aa rfl lz) ?_;refine u1 0 (ld rfl) ?_;refine u1 0 (ak rfl bC) ?_;refine aJ 0 0 (aD rfl rfl) ?_ ?_
      ·intro h63;intro a I;dsimp only at h63;refine rO 10 I ?_;clear I a;refine aY ?_;refine⟨?_,O.nil⟩;unfold bD aH SL.d jv.d;dsimp only
       rw[show bP es=true from by simpa using h12,h16,show bZ (rs.map RL.d)=true from by simpa using h23,←hq,h34,show ((rs.map RL.d).all fun r=>!ck r.bx p.d)=true from by
        rw[←all_filter];have hl:=congrArg List.length hz;rw[show z.d.length=z.rs.length from by simp[jv.d]]at hl;rw[←hl,List.length_map];omega,show (es.all fun e=>!bL (rs.map RL.d) e)=false from by
        rw[Bool.eq_false_iff,ne_eq,←all_filter];omega];rfl
      ·intro h63;intro a I;dsimp only at h63;refine rO 11 I ?_;clear I a;refine aY ?_;refine⟨?_,O.nil⟩;unfold bD aH SL.d jv.d;dsimp only
       rw[show bP es=true from by simpa using h12,h16,show bZ (rs.map RL.d)=true from by simpa using h23,←hq,h34,show ((rs.map RL.d).all fun r=>!ck r.bx p.d)=true from by
        rw[←all_filter];have hl:=congrArg List.length hz;rw[show z.d.length=z.rs.length from by simp[jv.d]]at hl;rw[←hl,List.length_map];omega,show (es.all fun e=>!bL (rs.map RL.d) e)=true from by
        rw[←all_filter];omega];rfl
theorem ye (W:World)(s:SL)(hp:s.ok W)(hs:kQ s):Calls Tryz.prog 186 #[.agg #[.slice s.e.a s.e.es.length s.e.c,.slice s.p.va s.p.d.vec.length s.p.vc,.slice s.p.ca s.p.d.ab.length s.p.cc,.slice s.r.a s.r.rs.length s.r.c]] W fun e w'=>e=.returned (.bool (bD s.d))∧Sat W w' []:=by
 refine bS Tryz.func186 [0] ?_;have O:=Sat.start W;obtain⟨⟨ea,ec,es⟩,p,⟨ra,rc,rs⟩⟩:=s;have he:iz W ea ec es:=hp.e;have hpp:p.ok W:=hp.p;have hrt:iF W ra rc rs:=hp.r.top;have hre:∀r∈rs,r.p.ok W:=hp.r.each;have hel:es.length≤16777216:=hs.es;have hpv:p.d.vec.length≤1000000000000:=hs.pv;have hpc:p.d.ab.length≤16777216:=hs.pc;have hrs:dm (rs.map fun r=>r.p.d)≤16777216:=hs.rs;have hrb:ew 10000000000 rs:=(gV hs.rv hrs).mono (by decide);have hrl:=nr hrs;refine uC 2 ?_;refine uB rfl O ?_;clear O;intro b1 w O;refine uO 6 ?_;refine u1 0 (aa rfl lz) ?_;refine u1 0 (ld rfl) ?_;refine uF rfl (uY _ ea ec es (he.sat O) (by omega)) ?_;rintro e w ⟨rfl,hT⟩;replace O:Sat _ _ _:=O.ag hT;clear hT;generalize h7:(bP es)=bb;cases bb
 ·refine u1 22 (aB rfl) ?_;refine aY ?_;refine⟨?_,O.nil⟩;unfold bD aH SL.d jv.d;dsimp only;rw[h7];rfl
 ·refine u1 1 (aB rfl) ?_;refine u1 0 (aa rfl ni) ?_;refine u1 0 (lS (cs:=[_,_]) rfl) ?_;refine iV rfl (eG _ p (hpp.sat O) (by omega) hpv) ?_;rintro e w ⟨rfl,hT⟩;replace O:Sat _ _ _:=O.ag hT;clear hT;generalize h12:(bg p.d)=bb;cases bb
  ·refine u1 17 (aB rfl) ?_;refine aY ?_;refine⟨?_,O.nil⟩;unfold bD aH SL.d jv.d;dsimp only;rw[h7,h12];rfl
  ·refine u1 2 (aB rfl) ?_;refine u1 0 (aa rfl lD) ?_;refine u1 0 (ld rfl) ?_;refine iV rfl (vl _ ra rc rs (hrt.sat O) (fun r h=>(hre r h).sat O) hrb (by omega)) ?_;rintro e w ⟨rfl,hT⟩;replace O:Sat _ _ _:=O.ag hT;clear hT;generalize h18:(bZ (rs.map RL.d))=bb;cases bb
   ·refine u1 11 (aB rfl) ?_;refine aY ?_;refine⟨?_,O.nil⟩;unfold bD aH SL.d jv.d;dsimp only;rw[h7,h12,h18];rfl
   ·refine u1 8 (aB rfl) ?_;intro a I;refine bf [5] O (by kernel_rfl) ?_;replace O:=O.drew;refine P1 0 [] I rfl (fun w=>(aa (I.ev rfl) lz)) ?_;clear I a;refine cZ 1 [] rfl (by exact⟨[],O⟩) (fun w hT=>have O:=hT.sat;(ld rfl)) ?_;refine bF 3 [] rfl (fun w=>(aa rfl ni)) ?_;refine cZ 4 [] rfl (by exact⟨[],O⟩) (fun w hT=>have O:=hT.sat;(lS (cs:=[_,_]) rfl)) ?_;intro a I;refine aE 2 (by kernel_rfl) ?_;refine eF I rfl rfl IF rfl (y3 _ ea ec es (he.sat O) (by omega)) ?_;clear I a;rintro e w ⟨q,rfl,hq,hT⟩;have hql:=Aq es;rw[←hq]at hql;have hqv:=zZ es;rw[←hq]at hqv;replace O:Sat _ _ (_::_::_):=O.ag hT;clear hT;refine⟨_,rfl,?_⟩;intro a I;refine⟨.inr fun _=>(by exact⟨[_,_],O⟩),?_⟩;refine aE 5 (by kernel_rfl) ?_
    refine eF I rfl rfl G5 rfl (pH _ q p ⟨O.rd,(O.p 1).rd⟩ (hpp.sat O) (by omega) (by omega)) ?_;clear I a;rintro e w ⟨rfl,hT⟩;replace O:Sat _ _ _:=O.ag hT;clear hT;refine⟨_,rfl,?_⟩;intro a I;refine⟨.inl rfl,?_⟩;refine K.Kl 6 I pk rfl rfl rfl rfl (by kernel_rfl) (by kernel_rfl) (by kernel_rfl) (fun w=>(aB (I.ev rfl))) ?_ ?_
    ·clear I a;intro h27;intro a I;simp only[Bool.not_eq_true']at h27;refine ah (by kernel_rfl) ?_ _;refine rE 9 I ?_;clear I a;refine aY ?_;refine⟨?_,O.nil⟩;unfold bD aH SL.d jv.d;dsimp only;rw[h7,h12,h18,←hq,show ck q.d p.d=false from by simpa using h27];simp
    ·clear I a;intro h27;intro a I;simp only[Bool.not_eq_false']at h27;refine ah (by kernel_rfl) ?_ _;refine rE 11 I ?_;clear I a;intro a I;refine wp_loop_ghost (fun (mm:Nat) a w=>∃(i:Nat),Ag a 62 [(1,.pointer (some ⟨b1,0,none⟩)),(3,.int .i64 ((i:Nat):Int))]∧Sat W w ([a6 b1 (.cells #[.slice ea es.length ec,.slice p.va p.d.vec.length p.vc,.slice p.ca p.d.ab.length p.cc,.slice ra rs.length rc] 70)])∧(i≤rs.length)∧(((rs.map RL.d).take i).all (fun r=>!ck r.bx p.d && es.all fun e2=>!hU r e2)=true)∧mm=rs.length-i) rs.length ?_ ?_
     ·replace I:=I.kp [1,3] rfl;exact⟨0,I,gy (O.p 2),(by omega),(by rfl),by omega⟩
     intro m a w hI;clear O I;obtain⟨i,I,O,hi,hw,rfl⟩:=hI;refine rC 4 I ?_;clear I a;refine u1 0 (aa rfl lD) ?_;refine u1 0 (ld rfl) ?_;refine u1 0 (ak rfl dk) ?_;refine aJ 0 0 (aq rfl rfl) ?_ ?_
     ·intro h32;obtain⟨x,hx⟩:∃x,rs[i]?=some x:=⟨_,List.getElem?_eq_getElem (by omega)⟩;obtain⟨ra_p,rfl⟩:∃q,ra=some q:=(hrt.sat O).au (by omega);have hxo:=hre x (List.mem_of_getElem? hx);obtain⟨hxv,_⟩:=hrb.get hx;have hxc:=((gV hs.rv hrs).get hx).2;refine uO 9 ?_;intro a I;refine xN (l1:=[_,_,_,_,_,_,_,_]) (l2:=[_]) rfl (by kernel_rfl) (by kernel_rfl) ?_;replace O:=O.drew;refine T1 0 I (aa (I.ev rfl) lD) ?_;clear I a;refine ud 1 (ld rfl) ?_;refine ud 0 (ix rfl rfl dk cA) ?_;refine ud 0 (aC rfl bN) ?_;refine ud 0 (aG (cs:=[.slice x.p.va x.p.d.vec.length x.p.vc,.slice x.p.ca x.p.d.ab.length x.p.cc]) rfl cS aO (fun j u e=>me (hrt.sat O) (df hx _ u (oX x j u e)))) ?_;refine ud 0 (aa rfl ni) ?_;refine ud 0 (lS (cs:=[_,_]) rfl) ?_;intro a I;refine wpStill_nil ?_
      refine Ht I rfl G5 rfl (pH _ x.p p (hxo.sat O) (hpp.sat O) (by omega) (by omega)) ?_;clear I a;rintro e w ⟨rfl,hT⟩;replace O:Sat _ _ _:=O.ag hT;clear hT;generalize h43:(ck x.p.d p.d)=bb;cases bb
      ·refine⟨_,rfl,?_⟩;refine uO 11 ?_;intro a I;refine wp_loop_ghost (fun (mm:Nat) a w=>∃(j:Nat),Ag a 62 [(1,.pointer (some ⟨b1,0,none⟩)),(3,.int .i64 ((i:Nat):Int)),(4,.int .i64 ((j:Nat):Int))]∧Sat W w ([a6 b1 (.cells #[.slice ea es.length ec,.slice p.va p.d.vec.length p.vc,.slice p.ca p.d.ab.length p.cc,.slice (some ra_p) rs.length rc] 70)])∧(j≤es.length)∧((es.take j).all (fun e2=>!hU x.d e2)=true)∧mm=es.length-j) es.length ?_ ?_
       ·replace I:=I.kp [1,3,4] rfl;exact⟨0,I,O,(by omega),(by rfl),by omega⟩
       intro m a w hI;clear O I;obtain⟨j,I,O,hj,hcv,rfl⟩:=hI;refine rC 4 I ?_;clear I a;refine u1 0 (aa rfl lz) ?_;refine u1 0 (ld rfl) ?_;refine u1 0 (ak rfl bC) ?_;refine aJ 0 0 (aq rfl rfl) ?_ ?_
       ·intro h48;refine uO 8 ?_;intro a I;refine xN (l1:=[_,_,_,_,_,_,_,_,_,_]) (l2:=[_]) rfl (by kernel_rfl) (by kernel_rfl) ?_;replace O:=O.drew;refine T1 0 I (aa (I.ev rfl) lD) ?_;clear I a;refine ud 1 (ld rfl) ?_;refine ud 0 (ix rfl rfl dk cA) ?_;refine ud 0 (aG (cs:=js x) rfl lZ cA (fun j u e=>bQ (hrt.sat O) (df hx j u e))) ?_;refine ud 0 (aa rfl lz) ?_;refine ud 1 (ld rfl) ?_;obtain⟨ea_p,rfl⟩:∃q,ea=some q:=(he.sat O).au (by omega);obtain⟨y,hy⟩:∃zz_,es[j]?=some zz_:=⟨_,List.getElem?_eq_getElem (by omega)⟩;refine ud 0 (ix rfl rfl bC dH) ?_;refine ud 0 (aG (cs:=lG y) rfl ry dH (fun j u e=>bQ (he.sat O) (de hy j u e))) ?_;intro a I;refine wpStill_nil ?_;refine Ht I rfl Iq rfl (wm _ x y (hxo.sat O) hxv (by omega)) ?_
        clear I a;rintro e w ⟨rfl,hT⟩;replace O:Sat _ _ _:=O.ag hT;clear hT;generalize h61:(hU x.d y)=bb;cases bb
        ·refine⟨_,rfl,?_⟩;refine uO 8 ?_;refine u1 2 (ad rfl rfl) ?_;intro a I;replace I:=I.kp [1,3,4] rfl;exact⟨es.length-(j+1),by omega,j+1,I,O,by omega,by rw[zT hy,hcv,h61];rfl,rfl⟩
        ·refine⟨_,rfl,?_⟩;refine uO 18 ?_;refine aY ?_;refine⟨?_,O.nil⟩;unfold bD aH SL.d jv.d;dsimp only;rw[h7,h12,h18,←hq,show ck q.d p.d=true from by simpa using h27,tI,Bv (bT hx) (show (!ck x.d.bx p.d && es.all fun e2=>!hU x.d e2)=false from by rw[Bv hy (by rw[h61];rfl)];simp)];rfl
       ·intro h48;refine uO 11 ?_;refine u1 2 (ad rfl rfl) ?_;intro a I;replace I:=I.kp [1,3] rfl;rw[List.take_of_length_le (by omega)]at hcv;exact⟨rs.length-(i+1),by omega,i+1,I,O,by omega,by rw[zT (bT hx),hw,show ck x.d.bx p.d=false from h43,hcv];rfl,rfl⟩
      ·refine⟨_,rfl,?_⟩;refine uO 15 ?_;refine aY ?_;refine⟨?_,O.nil⟩;unfold bD aH SL.d jv.d;dsimp only;rw[h7,h12,h18,←hq,show ck q.d p.d=true from by simpa using h27,tI,Bv (bT hx) (show (!ck x.d.bx p.d && _)=false from by rw[show ck x.d.bx p.d=true from h43];rfl)];rfl
     ·intro h32;refine uO 8 ?_;intro a I;replace I:=I.kp [] rfl;refine rC 6 I ?_;clear I a;refine aY ?_;obtain rfl:i=rs.length:=by omega
      rw[List.take_of_length_le (by simp)]at hw;refine⟨?_,O.nil⟩;unfold bD aH SL.d jv.d;dsimp only;rw[h7,h12,h18,←hq,show ck q.d p.d=true from by simpa using h27,tI,hw];rfl
theorem pU (W:World)(s:SL)(hp:s.ok W)(hs:kQ s):Calls Tryz.prog 143 #[.agg #[.slice s.e.a s.e.es.length s.e.c,.slice s.p.va s.p.d.vec.length s.p.vc,.slice s.p.ca s.p.d.ab.length s.p.cc,.slice s.r.a s.r.rs.length s.r.c]] W fun e w'=>e=.returned (.int .i64 (if bD s.d=true then 0 else 1))∧Sat W w' []:=by
 refine bS Tryz.func143 [0] ?_;have O:=Sat.start W;refine uC 2 ?_;refine uB rfl O ?_;clear O;intro b1 w O;refine uO 6 ?_;refine u1 0 (lS (cs:=[_,_,_,_]) rfl) ?_;refine uF rfl (ye _ s (hp.sat O) hs) ?_;rintro e w ⟨rfl,hT⟩;replace O:Sat _ _ _:=O.ag hT;clear hT;generalize h4:(bD s.d)=bb;cases bb
 ·refine uO 11 ?_;refine aY ?_;exact⟨by simp[h4],O.nil⟩
 ·refine uO 10 ?_;refine aY ?_;exact⟨by simp[h4],O.nil⟩
theorem zk (W:World)(A:Option Addr)(c:Nat)(xs:List aS)(B:Option Addr)(d:Nat)(ys:List aS)(hX:iz W A c xs)(hY:iz W B d ys)(hl1:xs.length≤1000000000000)(hl2:ys.length≤1000000000000):Calls Tryz.prog 105 #[.slice A (xs).length c,.slice B (ys).length d] W fun e w'=>e=.returned (.bool (decide (xs=ys)))∧Sat W w' []:=by
 refine bS Tryz.func105 [0,1] ?_;have O:=Sat.start W;refine uC 9 ?_;refine u1 1 (ak rfl bC) ?_;refine u1 0 (ak rfl bC) ?_;refine aJ 0 0 (aD rfl rfl) ?_ ?_
 ·intro h10;refine uO 10 ?_;refine aY ?_;refine⟨?_,O⟩;rw[decide_eq_false];intro h;rw[h]at h10;omega
 ·intro h10;refine uO 12 ?_;intro a I;refine wp_loop_ghost (fun (mm:Nat) a w=>∃(i:Nat),Ag a 26 [(0,.slice A (xs).length c),(1,.slice B (ys).length d),(5,.int .i64 ((i:Nat):Int))]∧Sat W w ([])∧(i≤xs.length)∧(xs.take i=ys.take i)∧mm=xs.length-i) xs.length ?_ ?_
  ·replace I:=I.kp [0,1,5] rfl;exact⟨0,I,O,(by omega),(by rfl),by omega⟩
  intro m a w hI;clear O I;obtain⟨i,I,O,hi,he,rfl⟩:=hI;refine rC 5 I ?_;clear I a;refine u1 0 (ak rfl bC) ?_;refine aJ 0 0 (aq rfl rfl) ?_ ?_
  ·intro h14;refine uO 8 ?_;intro a I;refine cF (fun w'=>Sat _ w' _) (by kernel_rfl) (by kernel_rfl) O.drew ?_;refine rQ 2 I ?_;clear I a;obtain⟨A_p,rfl⟩:∃q,A=some q:=(hX.sat O).au (by omega);obtain⟨x,hx⟩:∃zz_,xs[i]?=some zz_:=⟨_,List.getElem?_eq_getElem (by omega)⟩;refine bj 0 (fun w O=>(ix rfl rfl bC dH)) ?_;refine bj 2 (fun w O=>(aG (cs:=lG x) rfl ry dH (fun j u e=>bQ (hX.sat O) (de hx j u e)))) ?_;obtain⟨B_p,rfl⟩:∃q,B=some q:=(hY.sat O).au (by omega);obtain⟨y,hy⟩:∃zz_,ys[i]?=some zz_:=⟨_,List.getElem?_eq_getElem (by omega)⟩;refine bj 0 (fun w O=>(ix rfl rfl bC dH)) ?_;refine bj 0 (fun w O=>(aG (cs:=lG y) rfl ry dH (fun j u e=>bQ (hY.sat O) (de hy j u e)))) ?_;intro a I;refine K.sE I rfl rfl rfl (fun w O=>(yi (I.ev rfl) (I.ev rfl) Is IC)) ?_ ?_
   ·clear I a;intro h25;intro a I;refine wpQuiet_nil ?_;clear O;intro w O;refine rE 13 I ?_;clear I a;refine aY ?_;refine⟨?_,O⟩;rw[decide_eq_false];intro h;subst h;rw[hx]at hy;cases hy;simp at h25
   ·clear I a;intro h25;intro a I;refine wpQuiet_nil ?_;clear O;intro w O;refine rE 7 I ?_;clear I a;refine u1 2 (ad rfl rfl) ?_;intro a I;replace I:=I.kp [0,1,5] rfl;exact⟨xs.length-(i+1),by omega,i+1,I,O,by omega,by rw[aF hx,aF hy,he,show x=y from by cases x;cases y;simpa[and_assoc]using h25],rfl⟩
  ·intro h14;refine uO 8 ?_;intro a I;replace I:=I.kp [] rfl;refine rC 6 I ?_;clear I a;refine aY ?_;rw[List.take_of_length_le (by omega),List.take_of_length_le (by omega)]at he;refine⟨?_,O⟩;rw[decide_eq_true he]
theorem qB (W:World)(A:Option Addr)(c:Nat)(rs:List RL)(B:Option Addr)(d:Nat)(ts:List RL)(hX:iF W A c rs)(hY:iF W B d ts)(hEx:∀r∈rs,r.p.ok W)(hEy:∀r∈ts,r.p.ok W)(hBx:ew 10000000000 rs)(hBy:ew 10000000000 ts)(hl1:rs.length≤1000000000000)(hl2:ts.length≤1000000000000):Calls Tryz.prog 107 #[.slice A (rs).length c,.slice B (ts).length d] W fun e w'=>e=.returned (.bool (decide (rs.map RL.d=ts.map RL.d)))∧Sat W w' []:=by
 refine bS Tryz.func107 [0,1] ?_;have O:=Sat.start W;refine uC 9 ?_;refine u1 1 (ak rfl dk) ?_;refine u1 0 (ak rfl dk) ?_;refine aJ 0 0 (aD rfl rfl) ?_ ?_
 ·intro h10;refine uO 10 ?_;refine aY ?_;refine⟨?_,O⟩;rw[decide_eq_false];intro h;have:=congrArg List.length h;simp at this;omega
 ·intro h10;refine uO 12 ?_;intro a I;refine wp_loop_ghost (fun (mm:Nat) a w=>∃(i:Nat),Ag a 42 [(0,.slice A (rs).length c),(1,.slice B (ts).length d),(5,.int .i64 ((i:Nat):Int))]∧Sat W w ([])∧(i≤rs.length)∧((rs.map RL.d).take i=(ts.map RL.d).take i)∧mm=rs.length-i) rs.length ?_ ?_
  ·replace I:=I.kp [0,1,5] rfl;exact⟨0,I,O,(by omega),(by rfl),by omega⟩
  intro m a w hI;clear O I;obtain⟨i,I,O,hi,he,rfl⟩:=hI;refine rC 5 I ?_;clear I a;refine u1 0 (ak rfl dk) ?_;refine aJ 0 0 (aq rfl rfl) ?_ ?_
  ·intro h14;refine uO 8 ?_;intro a I;refine bf [22] O (by kernel_rfl) ?_;replace O:=O.drew;refine rX [0,1] I ?_;clear I a;obtain⟨A_p,rfl⟩:∃q,A=some q:=(hX.sat O).au (by omega);obtain⟨x,hx⟩:∃zz_,rs[i]?=some zz_:=⟨_,List.getElem?_eq_getElem (by omega)⟩;have hxo:=hEx x (List.mem_of_getElem? hx);obtain⟨hxv,hxc⟩:=hBx.get hx;refine bF 2 [] rfl (fun w=>(ix rfl rfl dk cA)) ?_;refine bF 3 [] rfl (fun w=>(aC rfl cf)) ?_;refine cZ 4 [5,6] rfl (by exact⟨[],O⟩) (fun w hT=>have O:=hT.sat;(an rfl Fa (bQ (hX.sat O) (df hx 0 _ rfl)))) ?_;obtain⟨B_p,rfl⟩:∃q,B=some q:=(hY.sat O).au (by omega);obtain⟨y,hy⟩:∃zz_,ts[i]?=some zz_:=⟨_,List.getElem?_eq_getElem (by omega)⟩;have hyo:=hEy y (List.mem_of_getElem? hy);obtain⟨hyv,hyc⟩:=hBy.get hy
   refine bF 7 [] rfl (fun w=>(ix rfl rfl dk cA)) ?_;refine bF 8 [] rfl (fun w=>(aC rfl cf)) ?_;refine cZ 9 [] rfl (by exact⟨[],O⟩) (fun w hT=>have O:=hT.sat;(an rfl Fa (bQ (hY.sat O) (df hy 0 _ rfl)))) ?_;intro a I;refine K.zh 10 I pk rfl rfl rfl rfl (by kernel_rfl) (by kernel_rfl) (by kernel_rfl) (fun w=>(x9 (I.ev rfl) (I.ev rfl))) ?_ ?_
   ·clear I a;intro h27;refine uX [11,12,13,14,15,16,17,18,19,20,21,22,23,24] ?_;intro a I;refine ah (by kernel_rfl) ?_ _;refine rE 13 I ?_;clear I a;refine aY ?_;refine⟨?_,O⟩;rw[decide_eq_false];intro h;have h1:=bT hx;rw[h,bT hy]at h1
    injection h1 with h1
    exact h27 (congrArg bK.cM h1.symm)
   ·clear I a;intro h27;refine uX [11,12,13] ?_;refine bF 14 [] rfl (fun w=>(ix rfl rfl dk cA)) ?_;refine bF 15 [] rfl (fun w=>(aC rfl bN)) ?_;refine cZ 16 [17,18] rfl (by exact⟨[],O⟩) (fun w hT=>have O:=hT.sat;(aG (cs:=[.slice x.p.va x.p.d.vec.length x.p.vc,.slice x.p.ca x.p.d.ab.length x.p.cc]) rfl cS aO (fun j u e=>me (hX.sat O) (df hx _ u (oX x j u e))))) ?_;refine bF 19 [] rfl (fun w=>(ix rfl rfl dk cA)) ?_;refine bF 20 [] rfl (fun w=>(aC rfl bN)) ?_;refine cZ 21 [] rfl (by exact⟨[],O⟩) (fun w hT=>have O:=hT.sat;(aG (cs:=[.slice y.p.va y.p.d.vec.length y.p.vc,.slice y.p.ca y.p.d.ab.length y.p.cc]) rfl cS aO (fun j u e=>me (hY.sat O) (df hy _ u (oX y j u e))))) ?_;intro a I;refine aE 22 (by kernel_rfl) ?_
    refine Fb I rfl (aT I rfl rfl rfl) rfl Gy rfl (qh _ x.p y.p (hxo.sat O) (hyo.sat O) hxv (by omega) hyv (by omega)) ?_;clear I a;rintro e w ⟨rfl,hT⟩;replace O:Sat _ _ _:=O.ag hT;clear hT;refine⟨_,rfl,?_⟩;intro a I;refine⟨.inl rfl,?_⟩;refine K.D7 23 I pk rfl (aT I rfl rfl rfl) rfl rfl (by kernel_rfl) (by kernel_rfl) (by kernel_rfl) (fun w=>(aB (I.ev rfl))) ?_ ?_
    ·clear I a;intro h40;intro a I;simp only[Bool.not_eq_true',decide_eq_false_iff_not]at h40;refine rX [24] I ?_;clear I a;intro a I;refine ah (by kernel_rfl) ?_ _;refine rE 13 I ?_;clear I a;refine aY ?_;refine⟨?_,O⟩;rw[decide_eq_false];intro h;have h1:=bT hx;rw[h,bT hy]at h1
     injection h1 with h1
     have h2:x.p.d=y.p.d:=congrArg bK.bx h1.symm;simp[h2]at h40
    ·clear I a;intro h40;intro a I;simp only[Bool.not_eq_false',decide_eq_true_eq]at h40;refine rX [24] I ?_;clear I a;intro a I;refine ah (by kernel_rfl) ?_ _;refine rE 7 I ?_;clear I a;refine u1 2 (ad rfl rfl) ?_;intro a I;replace I:=I.kp [0,1,5] rfl;have hxy:x.d=y.d:=Hf (Classical.not_not.1 h27) (by simpa using h40);exact⟨rs.length-(i+1),by omega,i+1,I,O,by omega,by rw[aF (bT hx),aF (bT hy),he,hxy],rfl⟩
  ·intro h14;refine uO 8 ?_;intro a I;replace I:=I.kp [] rfl;refine rC 6 I ?_;clear I a;refine aY ?_;rw[List.take_of_length_le (by simp;omega),List.take_of_length_le (by simp;omega)]at he;refine⟨?_,O⟩;rw[decide_eq_true he]
theorem pO (W:World)(s t:SL)(hp:s.ok W)(hs:kQ s)(gp:t.ok W)(gs:kQ t):Calls Tryz.prog 50 #[.agg #[.slice s.e.a s.e.es.length s.e.c,.slice s.p.va s.p.d.vec.length s.p.vc,.slice s.p.ca s.p.d.ab.length s.p.cc,.slice s.r.a s.r.rs.length s.r.c],.agg #[.slice t.e.a t.e.es.length t.e.c,.slice t.p.va t.p.d.vec.length t.p.vc,.slice t.p.ca t.p.d.ab.length t.p.cc,.slice t.r.a t.r.rs.length t.r.c]] W fun e w'=>e=.returned (.bool (decide (s.d=t.d)))∧Sat W w' []:=by
 refine bS Tryz.func50 [0,1] ?_;have O:=Sat.start W;obtain⟨⟨ea,ec,es⟩,p,⟨ra,rc,rs⟩⟩:=s;have he:iz W ea ec es:=hp.e;have hpp:p.ok W:=hp.p;have hrt:iF W ra rc rs:=hp.r.top;have hre:∀r∈rs,r.p.ok W:=hp.r.each;have hel:es.length≤16777216:=hs.es;have hpv:p.d.vec.length≤1000000000000:=hs.pv;have hpc:p.d.ab.length≤16777216:=hs.pc;have hrs:dm (rs.map fun r=>r.p.d)≤16777216:=hs.rs;have hrb:ew 10000000000 rs:=(gV hs.rv hrs).mono (by decide);have hrl:=nr hrs;obtain⟨⟨fa,fc,fs⟩,q,⟨ta,tc,ts⟩⟩:=t;have ge:iz W fa fc fs:=gp.e;have gpp:q.ok W:=gp.p;have grt:iF W ta tc ts:=gp.r.top;have gre:∀r∈ts,r.p.ok W:=gp.r.each;have gel:fs.length≤16777216:=gs.es;have gpv:q.d.vec.length≤1000000000000:=gs.pv;have gpc:q.d.ab.length≤16777216:=gs.pc;have grs:dm (ts.map fun r=>r.p.d)≤16777216:=gs.rs;have grb:ew 10000000000 ts:=(gV gs.rv grs).mono (by decide)
 have grl:=nr grs;refine uC 2 ?_;refine uB rfl O ?_;clear O;intro b2 w O;refine uB rfl O ?_;clear O;intro b3 w O;refine uO 5 ?_;refine u1 0 (aa rfl vP) ?_;refine u1 0 (ld rfl) ?_;refine u1 0 (aa rfl vP) ?_;refine u1 0 (ld rfl) ?_;refine uF rfl (zk _ ea ec es fa fc fs (he.sat O) (ge.sat O) (by omega) (by omega)) ?_;rintro e w ⟨rfl,hT⟩;replace O:Sat _ _ _:=O.ag hT;clear hT;generalize h9:(decide (es=fs))=bb;cases bb
 ·refine uO 18 ?_;refine aY ?_;refine⟨?_,O.nil⟩;rw[decide_eq_false];intro h;exact (of_decide_eq_false h9) (congrArg iR.jn h)
 ·refine uO 1 ?_;refine u1 0 (aa rfl vI) ?_;refine u1 0 (lS (cs:=[_,_]) rfl) ?_;refine u1 0 (aa rfl vI) ?_;refine u1 0 (lS (cs:=[_,_]) rfl) ?_;refine iV rfl (qh _ p q (hpp.sat O) (gpp.sat O) hpv (by omega) gpv (by omega)) ?_;rintro e w ⟨rfl,hT⟩;replace O:Sat _ _ _:=O.ag hT;clear hT;generalize h15:(decide (p.d=q.d))=bb;cases bb
  ·refine uO 12 ?_;refine aY ?_;refine⟨?_,O.nil⟩;rw[decide_eq_false];intro h;exact (of_decide_eq_false h15) (congrArg iR.bx h)
  ·refine uO 2 ?_;refine u1 0 (aa rfl vv) ?_;refine u1 0 (ld rfl) ?_;refine u1 0 (aa rfl vv) ?_;refine u1 0 (ld rfl) ?_;refine iV rfl (qB _ ra rc rs ta tc ts (hrt.sat O) (grt.sat O) (fun r h=>(hre r h).sat O) (fun r h=>(gre r h).sat O) hrb grb (by omega) (by omega)) ?_;rintro e w ⟨rfl,hT⟩;replace O:Sat _ _ _:=O.ag hT;clear hT;refine uO 5 ?_;refine aY ?_;refine⟨?_,O.nil⟩
   congr 2
   rw[decide_eq_decide];exact⟨fun h=>EJ (of_decide_eq_true h9) (of_decide_eq_true h15) h,fun h=>congrArg iR.mw h⟩
theorem tl (W:World)(s t:SL)(hp:s.ok W)(hs:kQ s)(gp:t.ok W)(gs:kQ t):Calls Tryz.prog 51 #[.agg #[.slice s.e.a s.e.es.length s.e.c,.slice s.p.va s.p.d.vec.length s.p.vc,.slice s.p.ca s.p.d.ab.length s.p.cc,.slice s.r.a s.r.rs.length s.r.c],.agg #[.slice t.e.a t.e.es.length t.e.c,.slice t.p.va t.p.d.vec.length t.p.vc,.slice t.p.ca t.p.d.ab.length t.p.cc,.slice t.r.a t.r.rs.length t.r.c]] W fun e w'=>e=.returned (.bool (decide (s.d=t.d)))∧Sat W w' []:=by
 refine bS Tryz.func51 [0,1] ?_;have O:=Sat.start W;refine uC 2 ?_;refine uB rfl O ?_;clear O;intro b2 w O;refine uB rfl O ?_;clear O;intro b3 w O;refine uO 5 ?_;refine u1 0 (aa rfl lz) ?_;refine u1 0 (ld rfl) ?_;refine u1 0 (aa rfl ni) ?_;refine u1 0 (lS (cs:=[_,_]) rfl) ?_;refine u1 0 (aa rfl lD) ?_;refine u1 0 (ld rfl) ?_;intro a I;refine o1 0 I (ar I rfl jE) ?_;clear I a;refine uN qg O ?_;clear O;intro b5 w O;refine uW (vs:=[_,_,_,_]) (cs':=[_,_,_,_]) rfl rfl gK O ?_;clear O;intro w O;refine uO 4 ?_;refine u1 0 (aa rfl lz) ?_;refine u1 0 (ld rfl) ?_;refine u1 0 (aa rfl ni) ?_;refine u1 0 (lS (cs:=[_,_]) rfl) ?_;refine u1 0 (aa rfl lD) ?_;refine u1 0 (ld rfl) ?_;intro a I;refine o1 0 I (ar I rfl jE) ?_;clear I a;refine uN qg O ?_;clear O;intro b6 w O
 refine uW (vs:=[_,_,_,_]) (cs':=[_,_,_,_]) rfl rfl gK O ?_;clear O;intro w O;refine uO 4 ?_;refine u1 0 (lS (cs:=[_,_,_,_]) rfl) ?_;refine u1 0 (lS (cs:=[_,_,_,_]) rfl) ?_;refine uF rfl (pO _ s t (hp.sat O) hs (gp.sat O) gs) ?_;rintro e w ⟨rfl,hT⟩;replace O:Sat _ _ _:=O.ag hT;clear hT;refine uO 4 ?_;refine aY ?_;exact⟨rfl,O.nil⟩
def aV (n:Nat):List UInt8:=if n<128 then [UInt8.ofNat n] else UInt8.ofNat (n % 128+128)::aV (n / 128)
termination_by n
decreasing_by omega
theorem ey {n:Nat}(h:n<128):aV n=[UInt8.ofNat n]:=by rw[aV,if_pos h]
theorem nI {n:Nat}(h:128≤n):aV n=UInt8.ofNat (n % 128+128)::aV (n / 128):=by rw[aV,if_neg (by omega)]
theorem cm (n:Nat):0<(aV n).length:=by
 by_cases h:n<128
 ·
  rw[ey h];simp
 ·
  rw[nI (by omega)];simp
theorem vE:∀(k n:Nat),n<128 ^ (k+1)→(aV n).length≤k+1
 | 0,n,h=>by rw[ey (by simpa using h)];simp
 | k + 1, n, h => by
   by_cases hn:n<128
   ·
    rw[ey hn];simp
   ·
    rw[nI (by omega)];have:=vE k (n / 128) (by rw[Nat.div_lt_iff_lt_mul (by omega)];rw[Nat.pow_succ]at h;exact h);simp;omega
theorem cB {n:Nat}(h:n≤9223372036854775807):(aV n).length≤9:=vE 8 n (by omega)
def gi:Nat→Nat→List UInt8→Nat×Nat×Nat
 | 0,_,_=>(51,0,0)
 | _+1,_,[]=>(50,0,0)
 | f + 1, k, c :: l => if c.toNat < 128 then (if c.toNat = 0 ∧ 0 < k then (51, 0, 0) else (0, c.toNat, 1)) else
     (if (gi f (k+1) l).1=0 then (0,(c.toNat-128)+128 * (gi f (k+1) l).2.1,(gi f (k+1) l).2.2+1) else ((gi f (k+1) l).1,0,0))
def lift (acc wt i:Nat)(r:Nat×Nat×Nat):Nat×Nat×Nat:=if r.1=0 then (0,acc+wt * r.2.1,i+r.2.2) else (r.1,0,0)
theorem DJ (acc wt i c:Nat)(r:Nat×Nat×Nat):lift acc wt i (if r.1=0 then (0,c+128 * r.2.1,r.2.2+1) else (r.1,0,0))=lift (acc+wt * c) (wt * 128) (i+1) r:=by
 unfold lift
 by_cases h:r.1=0
 ·
  rw[if_pos h,if_pos rfl,if_pos h];simp only[Prod.mk.injEq,true_and];refine⟨?_,by omega⟩;rw[Nat.mul_add,Nat.mul_assoc,←Nat.add_assoc]
 ·
  rw[if_neg h,if_neg h,if_neg h]
theorem F5 (r:Nat×Nat×Nat)(h:r.1=0∨(r.2.1=0∧r.2.2=0)):lift 0 1 0 r=r:=by
 unfold lift;obtain⟨a,b,c⟩:=r
 by_cases ha:a=0
 ·
  subst ha;simp
 ·
  rw[if_neg ha];rcases h with h | ⟨h1,h2⟩
  ·
   exact absurd h ha
  ·
   simp at h1 h2;subst h1 h2;rfl
theorem Ev:∀(f k:Nat) (l:List UInt8),(gi f k l).1=0∨((gi f k l).2.1=0∧(gi f k l).2.2=0)
 | 0,_,_=>.inr ⟨rfl,rfl⟩
 | _+1,_,[]=>.inr ⟨rfl,rfl⟩
 | f + 1, k, c :: l => by
   unfold gi
   (repeat' split)<;>simp
theorem w9 (c:UInt8):c.toNat<256:=c.toNat_lt
theorem tp:∀(f k:Nat) (l:List UInt8) (v n:Nat),gi f k l=(0,v,n)→n≤f∧n≤l.length∧v<128 ^ f∧(0<k→0<v)∧l.take n=aV v
 | 0,_,_,_,_,h=>by simp[gi]at h
 | _+1,_,[],_,_,h=>by simp[gi]at h
 | f + 1, k, c :: l, v, n, h => by
   unfold gi at h;have hc:=w9 c
   split at h
   ·
    rename_i h1
    split at h
    ·
     simp at h
    ·
     rename_i h2;simp only[Prod.mk.injEq,true_and]at h;obtain⟨rfl,rfl⟩:=h;have hp:1≤128 ^ f:=Nat.one_le_pow _ _ (by omega);refine⟨by omega,by simp,by rw[Nat.pow_succ];omega,fun hk=>by omega,?_⟩;rw[ey h1];simp
   ·
    rename_i h1
    split at h
    ·
     rename_i h2;simp only[Prod.mk.injEq,true_and]at h;obtain⟨rfl,rfl⟩:=h;obtain⟨i1,i2,i3,i4,i5⟩:=tp f (k+1) l (gi f (k+1) l).2.1 (gi f (k+1) l).2.2 (by rw[←h2]);have i4:=i4 (by omega);refine⟨by omega,by simp;omega,by rw[Nat.pow_succ];omega,fun _=>by omega,?_⟩;rw[nI (by omega),List.take_succ_cons];have e1:(c.toNat-128+128 * (gi f (k+1) l).2.1) / 128=(gi f (k+1) l).2.1:=by omega
     have e2:(c.toNat-128+128 * (gi f (k+1) l).2.1) % 128+128=c.toNat:=by omega
     rw[e1,e2,i5];simp
    ·
     simp at h;omega
theorem EL:∀(f k v:Nat) (l:List UInt8),v<128 ^ f→(0<k→0<v)→0<f→gi f k (aV v++l)=(0,v,(aV v).length)
 | 0,_,_,_,_,_,h=>by omega
 | f + 1, k, v, l, hv, hk, _ => by
   by_cases h:v<128
   ·
    rw[ey h];have e:(UInt8.ofNat v).toNat=v:=by simp[UInt8.toNat_ofNat'];omega
    simp only[List.cons_append,List.nil_append,gi,e];rw[if_pos h,if_neg (by omega)];rfl
   ·
    rw[nI (by omega)];have e:(UInt8.ofNat (v % 128+128)).toNat=v % 128+128:=by simp[UInt8.toNat_ofNat'];omega
    have hf:0<f:=by
     rcases Nat.eq_zero_or_pos f with h0 | h0
     ·
      subst h0;simp at hv;omega
     ·
      exact h0
    have:=EL f (k+1) (v / 128) l (by rw[Nat.div_lt_iff_lt_mul (by omega)];rw[Nat.pow_succ]at hv;exact hv) (fun _=>by omega) hf;simp only[List.cons_append,gi,e,this];rw[if_neg (by omega),if_pos trivial];simp;omega
def dr (bs:List UInt8)(at_:Nat):Nat×Nat×Nat:=if (gi 9 0 (bs.drop at_)).1=0 then ((gi 9 0 (bs.drop at_)).2.1,at_+(gi 9 0 (bs.drop at_)).2.2,0) else (0,0,(gi 9 0 (bs.drop at_)).1)
theorem qx {bs:List UInt8}{i:Nat}(h:(dr bs i).2.2=0):i<(dr bs i).2.1∧((dr bs i).2.1≤bs.length)∧(dr bs i).1≤9223372036854775807∧(dr bs i).2.1≤i+9∧(bs.drop i).take ((dr bs i).2.1-i)=aV (dr bs i).1∧(dr bs i).2.1-i=(aV (dr bs i).1).length:=by
 unfold dr at h ⊢
 by_cases h0:(gi 9 0 (bs.drop i)).1=0
 ·
  rw[if_pos h0];obtain⟨h1,h2,h3,_,h5⟩:=tp 9 0 (bs.drop i) (gi 9 0 (bs.drop i)).2.1 (gi 9 0 (bs.drop i)).2.2 (Prod.ext h0 rfl);have h6:=congrArg List.length h5;rw[List.length_take]at h6;have h7:=cm (gi 9 0 (bs.drop i)).2.1;simp only[List.length_drop]at h2 h6;have e:i+(gi 9 0 (bs.drop i)).2.2-i=(gi 9 0 (bs.drop i)).2.2:=by omega
  dsimp only;rw[e];refine⟨by omega,by omega,?_,by omega,h5,by omega⟩;have:(128:Nat) ^ 9=9223372036854775808:=by decide
  omega
 ·
  rw[if_neg h0]at h;exact absurd h h0
theorem Ge {bs:List UInt8}{i:Nat}(h:(dr bs i).2.2≠0):(dr bs i).1=0∧(dr bs i).2.1=0:=by
 unfold dr at h ⊢
 split
 ·
  rename_i h0;rw[if_pos h0]at h;exact absurd rfl h
 ·
  exact⟨rfl,rfl⟩
def jt (wt i:Nat):Prop:=wt=128 ^ i
theorem jt.zero:jt 1 0:=rfl
theorem jt.succ {wt i:Nat}(h:jt wt i):jt (wt * 128) (i+1):=by unfold jt at *;rw[h,Nat.pow_succ]
theorem jt.le {wt i:Nat}(h:jt wt i)(hi:i≤8):1≤wt∧wt≤72057594037927936:=by
 unfold jt at h;subst h;exact⟨Nat.one_le_pow _ _ (by omega),Nat.le_trans (Nat.pow_le_pow_right (by omega) hi) (by decide)⟩
theorem jt.two {wt i:Nat}(h:jt wt i):wt=2 ^ (7 * i):=by unfold jt at h;rw[h,show (128:Nat)=2 ^ 7 from rfl,←Nat.pow_mul]
theorem C6 {x wt i:Nat}(hx:x<128)(h:jt wt i)(hi:i≤8):x * wt≤9151314442816847872:=Nat.le_trans (Nat.mul_le_mul (show x≤127 by omega) (h.le hi).2) (by decide)
theorem HJ (c:UInt8):IntKind.u8.wrap (BitVec.ofInt IntKind.u8.bits (c.toNat:Int) &&& BitVec.ofInt IntKind.u8.bits 127).toNat=((c.toNat % 128:Nat):Int):=by
 have h:(BitVec.ofInt IntKind.u8.bits (c.toNat:Int) &&& BitVec.ofInt IntKind.u8.bits 127).toNat=c.toNat % 128:=by
  rw[BitVec.toNat_and,BitVec.toNat_ofInt,BitVec.toNat_ofInt]
  have h1:((c.toNat:Int) % ((2 ^ IntKind.u8.bits:Nat):Int)).toNat=c.toNat:=by
   have:=w9 c;simp[IntKind.bits];omega
  have h2:((127:Int) % ((2 ^ IntKind.u8.bits:Nat):Int)).toNat=2 ^ 7-1:=by decide
  rw[h1,h2,Nat.and_two_pow_sub_one_eq_mod]
 rw[h,gA (by simp[IntKind.min,IntKind.signed];try omega) (by simp[IntKind.max,IntKind.signed,IntKind.bits];try omega)]
theorem J7 {x i wt:Nat}(hx:x<128)(hi:i≤8)(hw:jt wt i):IntKind.i64.wrap ((x:Int) * 2 ^ (min ((7 * (i:Int)).toNat) IntKind.i64.bits))=((x * wt:Nat):Int):=by
 have h1:min ((7 * (i:Int)).toNat) IntKind.i64.bits=7 * i:=by simp[IntKind.bits];omega
 have h2:=C6 hx hw hi;have h3:(x:Int) * 2 ^ (7 * i)=((x * wt:Nat):Int):=by rw[hw.two];simp
 rw[h1,h3,gA (by simp only[IntKind.min,IntKind.signed,IntKind.bits];omega) (by simp only[IntKind.max,IntKind.signed,IntKind.bits];omega)]
theorem Kv {acc x i wt:Nat}(ha:acc<wt)(hx:x<128)(hi:i≤8)(hw:jt wt i):IntKind.i64.wrap (BitVec.ofInt IntKind.i64.bits (acc:Int) ||| BitVec.ofInt IntKind.i64.bits ((x * wt:Nat):Int)).toNat=((acc+x * wt:Nat):Int):=by
 have h2:=C6 hx hw hi;have h1:=(hw.le hi).2
 have b:∀n:Nat,n<9223372036854775808→(BitVec.ofInt IntKind.i64.bits (n:Int)).toNat=n:=fun n hn=>by
  rw[BitVec.toNat_ofInt];simp only[IntKind.bits];omega
 have h:(BitVec.ofInt IntKind.i64.bits (acc:Int) ||| BitVec.ofInt IntKind.i64.bits ((x * wt:Nat):Int)).toNat=acc+x * wt:=by
  rw[BitVec.toNat_or,b _ (by omega),b _ (by omega),Nat.or_comm,Nat.mul_comm x wt,hw.two];rw[hw.two]at ha;rw[←Nat.two_pow_add_eq_or_of_lt ha,Nat.add_comm]
 rw[h,gA (by simp only[IntKind.min,IntKind.signed,IntKind.bits];omega) (by simp only[IntKind.max,IntKind.signed,IntKind.bits];omega)]
theorem kV {x:Nat}(h:x<256):Value.int .u8 (x:Int)=aj (UInt8.ofNat x):=by
 unfold aj;simp[UInt8.toNat_ofNat'];omega
theorem rl {bs:List UInt8}{j:Nat}{x:UInt8}(hx:bs[j]?=some x):bs.drop j=x::bs.drop (j+1):=by
 have hl:=(List.getElem?_eq_some_iff.1 hx).1;rw[List.drop_eq_getElem_cons hl,(List.getElem?_eq_some_iff.1 hx).2]
theorem tv {bs:List UInt8}{at_ i acc wt:Nat}{x:UInt8}(hi:i≤8)(hx:bs[at_+i]?=some x)(hge:128≤x.toNat) :
 lift acc wt i (gi (9-i) i (bs.drop (at_+i)))=lift (acc+x.toNat % 128 * wt) (wt * 128) (i+1) (gi (9-(i+1)) (i+1) (bs.drop (at_+(i+1)))):=by
 have hlt:=w9 x;rw[rl hx,show 9-i=9-(i+1)+1 from by omega,gi,if_neg (by omega),DJ,Nat.mul_comm,show x.toNat-128=x.toNat % 128 from by omega,Nat.add_assoc]
theorem fW {bs:List UInt8}{at_ i acc wt:Nat}(hi:i≤8)(h:bs.length≤at_+i)(hI:gi 9 0 (bs.drop at_)=lift acc wt i (gi (9-i) i (bs.drop (at_+i)))):dr bs at_=(0,0,50):=by
 rw[List.drop_of_length_le h,show 9-i=8-i+1 from by omega]at hI;unfold dr;rw[hI];rfl
theorem jh {bs:List UInt8}{at_ i acc wt:Nat}{x:UInt8}(hi:i≤8)(hx:bs[at_+i]?=some x)(h0:x.toNat=0)(hi0:0<i)(hI:gi 9 0 (bs.drop at_)=lift acc wt i (gi (9-i) i (bs.drop (at_+i)))):dr bs at_=(0,0,51):=by
 rw[rl hx,show 9-i=8-i+1 from by omega,gi,if_pos (by omega),if_pos ⟨h0,hi0⟩]at hI;unfold dr;rw[hI];rfl
theorem jc {bs:List UInt8}{at_ i acc wt:Nat}{x:UInt8}(hi:i≤8)(hx:bs[at_+i]?=some x)(hlt:x.toNat<128)(h0:¬(x.toNat=0∧0<i))(hI:gi 9 0 (bs.drop at_)=lift acc wt i (gi (9-i) i (bs.drop (at_+i)))):dr bs at_=(acc+x.toNat * wt,at_+i+1,0):=by
 rw[rl hx,show 9-i=8-i+1 from by omega,gi,if_pos hlt,if_neg h0]at hI;unfold dr;rw[hI];simp only[lift,if_true,Prod.mk.injEq,and_true];exact⟨by rw[Nat.mul_comm],by omega⟩
theorem mv {bs:List UInt8}{at_ acc wt:Nat}(hI:gi 9 0 (bs.drop at_)=lift acc wt 9 (gi 0 9 (bs.drop (at_+9)))):dr bs at_=(0,0,51):=by
 unfold dr;rw[hI];rfl
theorem vy (bs:List UInt8)(at_:Nat):gi 9 0 (bs.drop at_)=lift 0 1 0 (gi (9-0) 0 (bs.drop (at_+0))):=(F5 _ (Ev 9 0 _)).symm
theorem yD {acc wt x:Nat}(h:acc<wt)(hx:x<128):acc+x * wt<wt * 128:=by
 have h1:x * wt≤127 * wt:=Nat.mul_le_mul_right _ (by omega);omega
theorem yE (W w:World)(L:List As)(A:Option Addr)(c:Nat)(bs:List UInt8)(v:Nat)(O:Sat W w (row 5 1 (.slice A (bs).length c) (bs).length ((bs).map aj)::L))(hv:v≤9223372036854775807)(hb:bs.length≤140737488355000):Calls Tryz.prog 144 #[.slice A bs.length c,.int .i64 ((v:Nat):Int)] w fun e w'=>∃A' c',e=.returned (.slice A' (bs++aV v).length c')∧Sat W w' (row 5 1 (.slice A' (bs++aV v).length c') (bs++aV v).length ((bs++aV v).map aj)::L):=by
 refine bS Tryz.func144 [0,1] ?_;refine uC 7 ?_;intro a I;refine wp_loop_ghost (fun (mm:Nat) a w=>∃(A':Option Addr) (c':Nat) (ds:List UInt8) (m:Nat),Ag a 21 [(0,.slice A' (bs++ds).length c'),(1,.int .i64 ((m:Nat):Int))]∧Sat W w (row 5 1 (.slice A' (bs++ds).length c') (bs++ds).length ((bs++ds).map aj)::L)∧(ds++aV m=aV v)∧(m≤v)∧mm=m) v ?_ ?_
 ·replace I:=I.kp [0,1] rfl;rw[←List.append_nil bs]at O I;exact⟨_,_,[],v,I,O,(by rfl),(by omega),by omega⟩
 intro m a w hI;clear O I;obtain⟨A',c',ds,m,I,O,hm,hmv,rfl⟩:=hI;have h9:=cB hv;have hdl:=congrArg List.length hm;rw[List.length_append]at hdl;have hnp:=cm m;refine rC 4 I ?_;clear I a;refine aJ 0 0 (dF rfl rfl) ?_ ?_
 ·intro h6;refine uO 10 ?_;refine u1 0 (gj rfl rfl (by omega) (by omega)) ?_;refine u1 0 (jK rfl pA oa (by omega) (by omega)) ?_;refine u1 0 (HE rfl rfl (by omega) (by omega)) ?_;intro a I;refine nZ I rfl rfl bd mX rfl rfl rfl (by simp[Value.oneCell']) O ?_;clear I a O;intro A12 w O;intro a I;refine dq I rfl rfl rfl bd mX rfl (O.p 1) (O.rd.src bd (by simp[Value.oneCell'])) (by simp only[List.length_append];omega) (by simp only[List.length_append];omega) ?_;clear I a O;intro A13 c13 w hc13 O;refine uO 5 ?_;refine u1 3 (kH rfl rfl (by omega) (by omega) (by omega)) ?_;intro a I;replace I:=I.kp [0,1] rfl;have hge:=nI (n:=m) (by omega);have hnc:=kV (x:=m % 128+128) (by omega)
  have e1:(bs++ds).map aj++[Value.int .u8 ((m:Int) % 128+128)]=(bs++(ds++[UInt8.ofNat (m % 128+128)])).map aj:=by rw[show ((m:Int) % 128+128:Int)=((m % 128+128:Nat):Int) from by omega,hnc];simp
  have e2:(bs++ds).length+1=(bs++(ds++[UInt8.ofNat (m % 128+128)])).length:=by simp;try omega
  have e3:((m:Int) / 128)=((m / 128:Nat):Int):=by omega
  rw[e1,e2]at O;rw[e2,e3]at I;have e4:(ds++[UInt8.ofNat (m % 128+128)])++aV (m / 128)=aV v:=by rw[←hm,hge];simp
  have e5:=congrArg List.length e4;have e6:=cm (m / 128);simp only[List.length_append,List.length_cons,List.length_nil]at e5;exact⟨m / 128,by omega,_,_,ds++[UInt8.ofNat (m % 128+128)],m / 128,I,(O.p 1).drop,e4,by omega,rfl⟩
 ·intro h6;refine uO 12 ?_;refine u1 0 (jK rfl pA oa (by omega) (by omega)) ?_;intro a I;refine nZ I rfl rfl bd mX rfl rfl rfl (by simp[Value.oneCell']) O ?_;clear I a O;intro A19 w O;intro a I;refine dq I rfl rfl rfl bd mX rfl (O.p 1) (O.rd.src bd (by simp[Value.oneCell'])) (by simp only[List.length_append];omega) (by simp only[List.length_append];omega) ?_;clear I a O;intro A20 c20 w hc20 O;refine uO 4 ?_;refine aY ?_;have hlt:=ey (n:=m) (by omega);have hnc:=kV (x:=m) (by omega);have e1:(bs++ds).map aj++[Value.int .u8 (m:Int)]=(bs++aV v).map aj:=by rw[hnc,←hm,hlt];simp
  have e2:(bs++ds).length+1=(bs++aV v).length:=by rw[←hm,hlt];simp;try omega
  rw[e1,e2]at O;rw[e2];exact⟨_,_,rfl,(O.p 1).drop⟩
theorem rD (W:World)(v:Nat)(hv:v≤9223372036854775807):Calls Tryz.prog 85 #[.int .i64 ((v:Nat):Int)] W fun e w'=>∃A' c',e=.returned (.slice A' (aV v).length c')∧Sat W w' [row 5 1 (.slice A' (aV v).length c') (aV v).length ((aV v).map aj)]:=by
 refine bS Tryz.func85 [0] ?_;have O:=Sat.start W;refine uC 12 ?_;intro a I;refine wp_loop_ghost (fun (mm:Nat) a w=>∃(A':Option Addr) (c':Nat) (ds:List UInt8) (m:Nat),Ag a 20 [(0,.int .i64 ((m:Nat):Int)),(3,.slice A' ds.length c')]∧Sat W w ([row 5 1 (.slice A' (ds).length c') (ds).length ((ds).map aj)])∧(ds++aV m=aV v)∧(m≤v)∧mm=m) v ?_ ?_
 ·replace I:=I.kp [0,3] rfl;replace O:=O.ba 5 1;exact⟨none,0,[],v,I,O,(by rfl),(by omega),by omega⟩
 intro m a w hI;clear O I;obtain⟨A',c',ds,m,I,O,hm,hmv,rfl⟩:=hI;have h9:=cB hv;have hdl:=congrArg List.length hm;rw[List.length_append]at hdl;have hnp:=cm m;refine rC 4 I ?_;clear I a;refine aJ 0 0 (dF rfl rfl) ?_ ?_
 ·intro h5;refine uO 10 ?_;refine u1 0 (gj rfl rfl (by omega) (by omega)) ?_;refine u1 0 (ad rfl rfl) ?_;refine u1 0 (jK rfl pA oa (by omega) (by omega)) ?_;intro a I;refine nZ I rfl rfl bd mX rfl rfl rfl (by simp[Value.oneCell']) O ?_;clear I a O;intro A11 w O;intro a I;refine dq I rfl rfl rfl bd mX rfl (O.p 1) (O.rd.src bd (by simp[Value.oneCell'])) (by omega) (by omega) ?_;clear I a O;intro A12 c12 w hc12 O;refine uO 5 ?_;refine u1 3 (kH rfl rfl (by omega) (by omega) (by omega)) ?_;intro a I;replace I:=I.kp [0,3] rfl;have hge:=nI (n:=m) (by omega);have hnc:=kV (x:=m % 128+128) (by omega);have e1:(ds).map aj++[Value.int .u8 (128+(m:Int) % 128)]=((ds++[UInt8.ofNat (m % 128+128)])).map aj:=by rw[show (128+(m:Int) % 128:Int)=((m % 128+128:Nat):Int) from by omega,hnc];simp
  have e2:(ds).length+1=((ds++[UInt8.ofNat (m % 128+128)])).length:=by simp;try omega
  have e3:((m:Int) / 128)=((m / 128:Nat):Int):=by omega
  rw[e1,e2]at O;rw[e2,e3]at I;have e4:(ds++[UInt8.ofNat (m % 128+128)])++aV (m / 128)=aV v:=by rw[←hm,hge];simp
  have e5:=congrArg List.length e4;have e6:=cm (m / 128);simp only[List.length_append,List.length_cons,List.length_nil]at e5;exact⟨m / 128,by omega,_,_,ds++[UInt8.ofNat (m % 128+128)],m / 128,I,(O.p 1).drop,e4,by omega,rfl⟩
 ·intro h5;refine uO 12 ?_;refine u1 0 (jK rfl pA oa (by omega) (by omega)) ?_;intro a I;refine nZ I rfl rfl bd mX rfl rfl rfl (by simp[Value.oneCell']) O ?_;clear I a O;intro A18 w O;intro a I;refine dq I rfl rfl rfl bd mX rfl (O.p 1) (O.rd.src bd (by simp[Value.oneCell'])) (by omega) (by omega) ?_;clear I a O;intro A19 c19 w hc19 O;refine uO 4 ?_;refine aY ?_;have hlt:=ey (n:=m) (by omega);have hnc:=kV (x:=m) (by omega);have e1:(ds).map aj++[Value.int .u8 (m:Int)]=(aV v).map aj:=by rw[hnc,←hm,hlt];simp
  have e2:(ds).length+1=(aV v).length:=by rw[←hm,hlt];simp;try omega
  rw[e1,e2]at O;rw[e2];exact⟨_,_,rfl,(O.p 1).drop⟩
theorem yF (W:World)(A:Option Addr)(c:Nat)(bs:List UInt8)(at_:Nat)(hR:Rd W 1 (.slice A bs.length c) bs.length (bs.map aj))(hat:at_≤bs.length)(hb:bs.length≤140737488355328):Calls Tryz.prog 150 #[.slice A bs.length c,.int .i64 ((at_:Nat):Int)] W fun e w'=>e=.returned (.tuple #[.int .i64 (((dr bs at_).1:Nat):Int),.int .i64 (((dr bs at_).2.1:Nat):Int),.int .i64 (((dr bs at_).2.2:Nat):Int)])∧Sat W w' []:=by
 refine bS Tryz.func150 [0,1] ?_;have O:=Sat.start W;refine uC 19 ?_;intro a I;refine wp_loop_ghost (fun (mm:Nat) a w=>∃(acc i wt:Nat),Ag a 47 [(0,.slice A bs.length c),(1,.int .i64 ((at_:Nat):Int)),(7,.int .i64 ((acc:Nat):Int)),(10,.int .i64 ((i:Nat):Int))]∧Sat W w ([])∧(i≤9)∧(acc<wt)∧(jt wt i)∧(gi 9 0 (bs.drop at_)=lift acc wt i (gi (9-i) i (bs.drop (at_+i))))∧mm=9-i) 9 ?_ ?_
 ·replace I:=I.kp [0,1,7,10] rfl;exact⟨0,0,1,I,O,(by omega),(by omega),(by exact jt.zero),(by exact vy _ _),by omega⟩
 intro m a w hI;clear O I;obtain⟨acc,i,wt,I,O,hi,hac,hw,hI,rfl⟩:=hI;refine rC 2 I ?_;clear I a;refine aJ 0 0 (aq rfl rfl) ?_ ?_
 ·intro h11;refine uO 19 ?_;refine u1 1 (ad rfl rfl) ?_;refine u1 0 (ak rfl bd) ?_;refine aJ 0 0 (dF rfl rfl) ?_ ?_
  ·intro h18;refine uO 17 ?_;intro a I;refine wA I rfl rfl rfl rfl ?_
   first
    | (rw[fW (by omega) (by omega) hI];exact⟨rfl,O⟩)
    | (rw[jh (by omega) hx' (by omega) (by omega) hI];exact⟨rfl,O⟩)
    | (rw[jc (by omega) hx' (by omega) (by omega) hI,show x.toNat % 128=x.toNat from by omega];exact⟨rfl,O⟩)
    | (obtain rfl:i=9:=(by omega);rw[mv hI];exact⟨rfl,O⟩)
  ·intro h18;refine uO 10 ?_;refine u1 0 (ad rfl rfl) ?_;obtain⟨A_p,rfl⟩:∃q,A=some q:=(hR.sat O).au (by omega);obtain⟨x,hx⟩:∃zz_,bs[((at_:Int)+(i:Int)).toNat]?=some zz_:=⟨_,List.getElem?_eq_getElem (by omega)⟩;have hx':bs[at_+i]?=some x:=by rw[←hx];congr 1
   have hxl:=w9 x;refine u1 0 (ix rfl rfl bd sL) ?_;refine u1 7 (an rfl Az (fP (hR.sat O) (bu hx))) ?_;refine u1 0 (aw (Jc rfl rfl) (congrArg (Value.int .u8) (HJ x))) ?_;refine u1 1 (nk rfl oa pA (by simp only[IntKind.min,IntKind.signed,IntKind.bits];omega) (by simp only[IntKind.max,IntKind.signed,IntKind.bits];omega)) ?_;refine u1 0 (l9 rfl rfl (by omega) (by omega)) ?_;refine u1 0 (aw (Ho rfl rfl (by omega)) (congrArg (Value.int .i64) (J7 (by omega) (by omega) hw))) ?_;refine u1 6 (aw (JU rfl rfl) (congrArg (Value.int .i64) (Kv hac (by omega) (by omega) hw))) ?_;refine aJ 0 0 (aq rfl rfl) ?_ ?_
   ·intro h34;refine uO 7 ?_;refine aJ 0 0 (aU rfl rfl) ?_ ?_
    ·intro h36;refine uO 2 ?_;refine aJ 0 0 (cG rfl rfl) ?_ ?_
     ·intro h39;refine uO 18 ?_;intro a I;refine wA I rfl rfl rfl rfl ?_
      first
       | (rw[fW (by omega) (by omega) hI];exact⟨rfl,O⟩)
       | (rw[jh (by omega) hx' (by omega) (by omega) hI];exact⟨rfl,O⟩)
       | (rw[jc (by omega) hx' (by omega) (by omega) hI,show x.toNat % 128=x.toNat from by omega];exact⟨rfl,O⟩)
       | (obtain rfl:i=9:=(by omega);rw[mv hI];exact⟨rfl,O⟩)
     ·intro h39;refine uO 11 ?_;refine u1 0 (ad rfl rfl) ?_;refine u1 11 (ad rfl rfl) ?_;intro a I;refine wA I rfl rfl rfl rfl ?_
      first
       | (rw[fW (by omega) (by omega) hI];exact⟨rfl,O⟩)
       | (rw[jh (by omega) hx' (by omega) (by omega) hI];exact⟨rfl,O⟩)
       | (rw[jc (by omega) hx' (by omega) (by omega) hI,show x.toNat % 128=x.toNat from by omega];exact⟨rfl,O⟩)
       | (obtain rfl:i=9:=(by omega);rw[mv hI];exact⟨rfl,O⟩)
    ·intro h36;refine uO 14 ?_;refine u1 0 (ad rfl rfl) ?_;refine u1 11 (ad rfl rfl) ?_;intro a I;refine wA I rfl rfl rfl rfl ?_
     first
      | (rw[fW (by omega) (by omega) hI];exact⟨rfl,O⟩)
      | (rw[jh (by omega) hx' (by omega) (by omega) hI];exact⟨rfl,O⟩)
      | (rw[jc (by omega) hx' (by omega) (by omega) hI,show x.toNat % 128=x.toNat from by omega];exact⟨rfl,O⟩)
      | (obtain rfl:i=9:=(by omega);rw[mv hI];exact⟨rfl,O⟩)
   ·intro h34;refine uO 7 ?_;refine u1 2 (ad rfl rfl) ?_;intro a I;replace I:=I.kp [0,1,7,10] rfl;have hm7:=C6 (x:=x.toNat % 128) (by omega) hw (by omega);rw[show ((i:Int)+1)=((i+1:Nat):Int) from rfl]at I;exact⟨9-(i+1),by omega,acc+x.toNat % 128 * wt,i+1,wt * 128,I,O,by omega,yD hac (by omega),hw.succ,by rw[hI];exact tv (by omega) hx' (by omega),rfl⟩
 ·intro h11;refine uO 17 ?_;intro a I;refine wA I rfl rfl rfl rfl ?_
  first
   | (rw[fW (by omega) (by omega) hI];exact⟨rfl,O⟩)
   | (rw[jh (by omega) hx' (by omega) (by omega) hI];exact⟨rfl,O⟩)
   | (rw[jc (by omega) hx' (by omega) (by omega) hI,show x.toNat % 128=x.toNat from by omega];exact⟨rfl,O⟩)
   | (obtain rfl:i=9:=(by omega);rw[mv hI];exact⟨rfl,O⟩)
theorem cI (W:World)(A:Option Addr)(c:Nat)(bs:List UInt8)(at_:Nat)(hR:Rd W 1 (.slice A bs.length c) bs.length (bs.map aj))(hat:at_≤bs.length)(hb:bs.length≤140737488355328):Calls Tryz.prog 46 #[.slice A bs.length c,.int .i64 ((at_:Nat):Int)] W fun e w'=>e=.returned (.tuple #[.int .i64 (((dr bs at_).1:Nat):Int),.int .i64 (((dr bs at_).2.1:Nat):Int),.int .i64 (((dr bs at_).2.2:Nat):Int)])∧Sat W w' []:=by
 refine bS Tryz.func46 [0,1] ?_;have O:=Sat.start W;refine uC 24 ?_;intro a I;refine wp_loop_ghost (fun (mm:Nat) a w=>∃(acc wt i:Nat),Ag a 55 [(0,.slice A bs.length c),(1,.int .i64 ((at_:Nat):Int)),(7,.int .i64 ((acc:Nat):Int)),(8,.int .i64 ((wt:Nat):Int)),(9,.int .i64 ((i:Nat):Int))]∧Sat W w ([])∧(i≤9)∧(i≤8→acc<wt)∧(i≤8→jt wt i)∧(∃z,gi 9 0 (bs.drop at_)=lift acc z i (gi (9-i) i (bs.drop (at_+i)))∧(i≤8→z=wt))∧mm=9-i) 9 ?_ ?_
 ·replace I:=I.kp [0,1,7,8,9] rfl;exact⟨0,1,0,I,O,(by omega),(by omega),(by exact fun _=>jt.zero),(by exact⟨1,vy _ _,fun _=>rfl⟩),by omega⟩
 intro m a w hI;clear O I;obtain⟨acc,wt,i,I,O,hi,hac,hw',hI,rfl⟩:=hI;obtain⟨z,hI,hz⟩:=hI;refine rC 4 I ?_;clear I a;refine aJ 0 0 (aq rfl rfl) ?_ ?_
 ·intro h12;refine uO 12 ?_;refine u1 1 (ad rfl rfl) ?_;refine u1 0 (ak rfl bd) ?_;refine aJ 0 0 (dF rfl rfl) ?_ ?_
  ·intro h20;refine uO 17 ?_;intro a I;refine wA I rfl rfl rfl rfl ?_
   first
    | (rw[fW (by omega) (by omega) hI];exact⟨rfl,O⟩)
    | (rw[jh (by omega) hx' (by omega) (by omega) hI];exact⟨rfl,O⟩)
    | (obtain rfl:=hz (by omega);rw[jc (by omega) hx' (by omega) (by omega) hI];exact⟨rfl,O⟩)
    | (obtain rfl:i=9:=(by omega);rw[mv hI];exact⟨rfl,O⟩)
  ·intro h20;refine uO 10 ?_;refine u1 0 (ad rfl rfl) ?_;obtain⟨A_p,rfl⟩:∃q,A=some q:=(hR.sat O).au (by omega);obtain⟨x,hx⟩:∃zz_,bs[((at_:Int)+(i:Int)).toNat]?=some zz_:=⟨_,List.getElem?_eq_getElem (by omega)⟩;have hx':bs[at_+i]?=some x:=by rw[←hx];congr 1
   have hxl:=w9 x;refine u1 0 (ix rfl rfl bd sL) ?_;refine u1 0 (an rfl Az (fP (hR.sat O) (bu hx))) ?_;refine u1 7 (nk rfl oa pA (by simp only[IntKind.min,IntKind.signed,IntKind.bits];omega) (by simp only[IntKind.max,IntKind.signed,IntKind.bits];omega)) ?_;refine aJ 0 0 (aq rfl rfl) ?_ ?_
   ·intro h29;refine uO 7 ?_;refine aJ 0 0 (aU rfl rfl) ?_ ?_
    ·intro h31;refine uO 2 ?_;refine aJ 0 0 (cG rfl rfl) ?_ ?_
     ·intro h34;refine uO 19 ?_;intro a I;refine wA I rfl rfl rfl rfl ?_
      first
       | (rw[fW (by omega) (by omega) hI];exact⟨rfl,O⟩)
       | (rw[jh (by omega) hx' (by omega) (by omega) hI];exact⟨rfl,O⟩)
       | (obtain rfl:=hz (by omega);rw[jc (by omega) hx' (by omega) (by omega) hI];exact⟨rfl,O⟩)
       | (obtain rfl:i=9:=(by omega);rw[mv hI];exact⟨rfl,O⟩)
     ·intro h34;refine uO 11 ?_;have hw:=hw' (by omega);have hm7:=C6 (x:=x.toNat) (by omega) hw (by omega);have hwl:=(hw.le (by omega)).2;refine u1 0 (aw (l9 rfl rfl (by rw[←Int.natCast_mul];omega) (by rw[←Int.natCast_mul];omega)) (show _=Value.int .i64 ((x.toNat * wt:Nat):Int) from by rw[Int.natCast_mul])) ?_;refine u1 2 (aw (ad rfl rfl) (show _=Value.int .i64 ((acc+x.toNat * wt:Nat):Int) from by rw[Int.natCast_add])) ?_;refine u1 0 (ad rfl rfl) ?_;refine u1 12 (ad rfl rfl) ?_;intro a I;refine wA I rfl rfl rfl rfl ?_
      first
       | (rw[fW (by omega) (by omega) hI];exact⟨rfl,O⟩)
       | (rw[jh (by omega) hx' (by omega) (by omega) hI];exact⟨rfl,O⟩)
       | (obtain rfl:=hz (by omega);rw[jc (by omega) hx' (by omega) (by omega) hI];exact⟨rfl,O⟩)
       | (obtain rfl:i=9:=(by omega);rw[mv hI];exact⟨rfl,O⟩)
    ·intro h31;refine uO 14 ?_;have hw:=hw' (by omega);have hm7:=C6 (x:=x.toNat) (by omega) hw (by omega);have hwl:=(hw.le (by omega)).2;refine u1 0 (aw (l9 rfl rfl (by rw[←Int.natCast_mul];omega) (by rw[←Int.natCast_mul];omega)) (show _=Value.int .i64 ((x.toNat * wt:Nat):Int) from by rw[Int.natCast_mul])) ?_;refine u1 2 (aw (ad rfl rfl) (show _=Value.int .i64 ((acc+x.toNat * wt:Nat):Int) from by rw[Int.natCast_add])) ?_;refine u1 0 (ad rfl rfl) ?_;refine u1 12 (ad rfl rfl) ?_;intro a I;refine wA I rfl rfl rfl rfl ?_
     first
      | (rw[fW (by omega) (by omega) hI];exact⟨rfl,O⟩)
      | (rw[jh (by omega) hx' (by omega) (by omega) hI];exact⟨rfl,O⟩)
      | (obtain rfl:=hz (by omega);rw[jc (by omega) hx' (by omega) (by omega) hI];exact⟨rfl,O⟩)
      | (obtain rfl:i=9:=(by omega);rw[mv hI];exact⟨rfl,O⟩)
   ·intro h29;refine uO 9 ?_;have hw:=hw' (by omega);have hm7:=C6 (x:=x.toNat % 128) (by omega) hw (by omega);have hwl:=(hw.le (by omega)).2;refine u1 1 (aw (sb rfl rfl) (show _=Value.int .i64 ((x.toNat % 128:Nat):Int) from by congr 1;omega)) ?_;refine u1 0 (aw (l9 rfl rfl (by rw[←Int.natCast_mul];omega) (by rw[←Int.natCast_mul];omega)) (show _=Value.int .i64 ((x.toNat % 128 * wt:Nat):Int) from by rw[Int.natCast_mul])) ?_;refine u1 6 (aw (ad rfl rfl) (show _=Value.int .i64 ((acc+x.toNat % 128 * wt:Nat):Int) from by rw[Int.natCast_add])) ?_;refine aJ 0 0 (aq rfl rfl) ?_ ?_
    ·intro h52;refine uO 5 ?_;have hw7:=((hw' (by omega)).succ).le (by omega);refine u1 6 (aw (l9 rfl rfl (by omega) (by omega)) (show _=Value.int .i64 ((wt * 128:Nat):Int) from by rw[Int.natCast_mul];rfl)) ?_;refine u1 2 (ad rfl rfl) ?_;intro a I;replace I:=I.kp [0,1,7,8,9] rfl;have hac:=hac (by omega);obtain rfl:=hz (by omega);rw[show ((i:Int)+1)=((i+1:Nat):Int) from rfl]at I;exact⟨9-(i+1),by omega,acc+x.toNat % 128 * z,_,i+1,I,O,by omega,(fun h=>by exact yD hac (by omega)),(fun h=>by exact hw.succ),⟨z * 128,by rw[hI];exact tv (by omega) hx' (by omega),(fun h=>by rfl)⟩,rfl⟩
    ·intro h52;refine uO 8 ?_;refine u1 2 (ad rfl rfl) ?_;intro a I;replace I:=I.kp [0,1,7,8,9] rfl;have hac:=hac (by omega);obtain rfl:=hz (by omega);rw[show ((i:Int)+1)=((i+1:Nat):Int) from rfl]at I;exact⟨9-(i+1),by omega,acc+x.toNat % 128 * z,_,i+1,I,O,by omega,(fun h=>by omega),(fun h=>by omega),⟨z * 128,by rw[hI];exact tv (by omega) hx' (by omega),(fun h=>by omega)⟩,rfl⟩
 ·intro h12;refine uO 16 ?_;intro a I;refine wA I rfl rfl rfl rfl ?_
  first
   | (rw[fW (by omega) (by omega) hI];exact⟨rfl,O⟩)
   | (rw[jh (by omega) hx' (by omega) (by omega) hI];exact⟨rfl,O⟩)
   | (obtain rfl:=hz (by omega);rw[jc (by omega) hx' (by omega) (by omega) hI];exact⟨rfl,O⟩)
   | (obtain rfl:i=9:=(by omega);rw[mv hI];exact⟨rfl,O⟩)
def gN (bs:List UInt8)(i:Nat)(mo:Int):Nat×Nat×Nat:=if (dr bs i).2.2≠0 then (0,0,(dr bs i).2.2) else if mo<((dr bs i).1:Int) then (0,0,51) else ((dr bs i).1,(dr bs i).2.1,0)
theorem rq {bs:List UInt8}{i:Nat}{mo:Int}(h:(dr bs i).2.2≠0):gN bs i mo=(0,0,(dr bs i).2.2):=if_pos h
theorem rz {bs:List UInt8}{i:Nat}{mo:Int}(h:(dr bs i).2.2=0)(h2:mo<((dr bs i).1:Int)):gN bs i mo=(0,0,51):=by unfold gN;rw[if_neg (by omega),if_pos h2]
theorem sw {bs:List UInt8}{i:Nat}{mo:Int}(h:(dr bs i).2.2=0)(h2:((dr bs i).1:Int)≤mo):gN bs i mo=((dr bs i).1,(dr bs i).2.1,0):=by unfold gN;rw[if_neg (by omega),if_neg (by omega)]
theorem CB {bs:List UInt8}{i:Nat}{mo:Int}(hi:i≤bs.length):(gN bs i mo).2.2≠0∨((gN bs i mo).2.2=0∧i<(gN bs i mo).2.1∧(gN bs i mo).2.1≤bs.length∧(gN bs i mo).1≤9223372036854775807):=by
 unfold gN
 by_cases h:(dr bs i).2.2=0
 ·
  obtain⟨k1,k2,k3,k4,k5,k6⟩:=qx h;rw[if_neg (by omega)]
  split
  ·
   simp
  ·
   simp;omega
 ·
  rw[if_pos h];simp[h]
def nM (bs:List UInt8)(i:Nat)(mo:Int):List UInt8×Nat×Nat:=if (gN bs i mo).2.2≠0 then ([],0,(gN bs i mo).2.2) else if bs.length-(gN bs i mo).2.1<(gN bs i mo).1 then ([],0,50) else ((bs.drop (gN bs i mo).2.1).take (gN bs i mo).1,(gN bs i mo).2.1+(gN bs i mo).1,0)
theorem tB {bs:List UInt8}{i:Nat}{mo:Int}(h:(gN bs i mo).2.2≠0):nM bs i mo=([],0,(gN bs i mo).2.2):=if_pos h
theorem pa {bs:List UInt8}{i:Nat}{mo:Int}(h:(gN bs i mo).2.2=0)(h2:bs.length-(gN bs i mo).2.1<(gN bs i mo).1):nM bs i mo=([],0,50):=by unfold nM;rw[if_neg (by omega),if_pos h2]
theorem uJ {bs:List UInt8}{i:Nat}{mo:Int}(h:(gN bs i mo).2.2=0)(h2:(gN bs i mo).1≤bs.length-(gN bs i mo).2.1):nM bs i mo=((bs.drop (gN bs i mo).2.1).take (gN bs i mo).1,(gN bs i mo).2.1+(gN bs i mo).1,0):=by unfold nM;rw[if_neg (by omega),if_neg (by omega)]
theorem CS {bs:List UInt8}{i:Nat}{mo:Int}:(nM bs i mo).1.length≤bs.length:=by
 unfold nM
 (repeat' split)
 ·
  simp
 ·
  simp
 ·
  simp;omega
theorem gg {w:World}{A:Option Addr}{c:Nat}{bs:List UInt8}(h:Rd w 1 (.slice A bs.length c) bs.length (bs.map aj))(i n:Nat)(hi:i+n≤bs.length) :
 Rd w 1 (.slice (jW A c 1 i) ((bs.drop i).take n).length (c-i)) ((bs.drop i).take n).length (((bs.drop i).take n).map aj):=by
 have h':=h.cut i (i+n) (by omega) hi;have e:((bs.drop i).take n).length=i+n-i:=by simp;omega
 rw[e]
 have e2:((bs.map aj).drop (i * 1)).take ((i+n-i) * 1)=((bs.drop i).take n).map aj:=by
  rw[List.map_take,List.map_drop,Nat.mul_one,Nat.mul_one];congr 1;omega
 rw[e2]at h';exact h'
theorem jC {A:Option Addr}{c:Nat}{bs:List UInt8}{i j n:Nat}(hj:j=i+n)(hn:j≤bs.length):(Value.slice (jW A c 1 ((i:Int)).toNat) (((j:Int)).toNat-((i:Int)).toNat) (c-((i:Int)).toNat))=.slice (jW A c 1 i) ((bs.drop i).take n).length (c-i):=by
 subst hj;have:((bs.drop i).take n).length=n:=by simp;omega
 rw[this];simp;omega
def str (bs:List UInt8):ByteArray:=⟨bs.toArray⟩
theorem sW (W:World)(A:Option Addr)(c:Nat)(bs:List UInt8)(hR:Rd W 1 (.slice A bs.length c) bs.length (bs.map aj))(hn:bs.length≤140737488355328):Calls Tryz.prog 146 #[.slice A bs.length c] W fun e w'=>∃A' c',e=.returned (.slice A' bs.length c')∧Sat W w' [row 5 1 (.slice A' (bs).length c') (bs).length ((bs).map aj)]:=by
 refine bS Tryz.func146 [0] ?_;have O:=Sat.start W;refine uC 9 ?_;refine j4 0 0 (AI rfl rfl bd) ?_ ?_
 ·intro h4;refine uO 10 ?_;refine aY ?_;obtain rfl:A=none:=by simpa using h4
  obtain⟨h1,h2⟩:=hR.nil;obtain rfl:bs=[]:=List.eq_nil_of_length_eq_zero h1;exact⟨none,0,rfl,O.ba _ _⟩
 ·intro h4;refine uO 7 ?_;intro a I;refine Gj I rfl bd mX O ?_;clear I a O;intro A5 w O;refine uO 1 ?_;intro a I;refine dq I rfl rfl rfl bd mX rfl O ((hR.sat O).src bd (AS bs)) (by omega) (by omega) ?_;clear I a O;intro A7 c7 w hc7 O;refine uO 4 ?_;refine aY ?_;simp only[Nat.zero_add,List.nil_append]at O ⊢;exact⟨_,_,rfl,O⟩
def pb (kd n:Int)(b:Bool)(s:ByteArray):List UInt8×Bool:=
 if kd=1 then (if n<0 then ([],false) else (aV n.toNat,true))
 else if kd=2 then ([if b then 1 else 0],true)
 else if kd=3∨kd=4 then (aV s.data.toList.length++s.data.toList,true)
 else ([],true)
theorem IL {n:Int}{b:Bool}{s:ByteArray}(h:n<0):pb 1 n b s=([],false):=by unfold pb;rw[if_pos rfl,if_pos h]
theorem FY {n:Int}{b:Bool}{s:ByteArray}(h:¬n<0):pb 1 n b s=(aV n.toNat,true):=by unfold pb;rw[if_pos rfl,if_neg h]
def HN (p:Nat)(A:Option Addr)(c:Nat)(bs:List UInt8)(bad:Bool):As:=a6 p (.cells #[.slice A bs.length c,.bool bad] 263)
theorem nV (W:World)   : Calls Tryz.prog 89 #[] W fun e w'=>∃p,e=.returned (.pointer (some ⟨p,0,none⟩))∧Sat W w' [HN p none 0 ([]) false]:=by
 refine bS Tryz.func89 [] ?_;have O:=Sat.start W;refine uC 7 ?_;intro a I;refine o1 0 I (ar I rfl Hd) ?_;clear I a;refine uB rfl O ?_;clear O;intro b2 w O;refine uO 4 ?_;refine aY ?_;exact⟨_,rfl,O⟩
theorem iC (W w:World)(L:List As)(p:Nat)(A:Option Addr)(c:Nat)(bs:List UInt8)(bad:Bool)(n:Int)(O:Sat W w (HN p A c (bs) bad::row 5 1 (.slice A (bs).length c) (bs).length ((bs).map aj)::L))(hl:bs.length≤140737488350000)(hn:n≤9223372036854775807):Calls Tryz.prog 90 #[.pointer (some ⟨p,0,none⟩),.int .i64 n] w fun e w'=>e=.returned (.tuple #[])∧∃A' c',Sat W w' (HN p A' c' (bs++(pb 1 n false .empty).1) (bad || !(pb 1 n false .empty).2)::row 5 1 (.slice A' (bs++(pb 1 n false .empty).1).length c') (bs++(pb 1 n false .empty).1).length ((bs++(pb 1 n false .empty).1).map aj)::L):=by
 refine bS Tryz.func90 [0,1] ?_;intro a I;change Sat W w (a6 p (.cells #[.slice A bs.length c,.bool bad] 263)::_) at O;refine rC 4 I ?_;clear I a;refine j4 0 0 (Bj rfl rfl GZ) ?_ ?_
 ·intro h5;intro a I;contradiction
 ·intro h5;refine uO 9 ?_;refine aJ 0 0 (aq rfl rfl) ?_ ?_
  ·intro h7;refine uO 6 ?_;refine u1 0 (bc rfl) ?_;refine u1 0 (aa rfl CA) ?_;intro a I;refine kK I rfl rfl tA wq rfl O rfl ?_;clear O;intro w O;refine rO 4 I ?_;clear I a;intro a I;refine mR I rfl  ?_
   first
    | (rw[IL (by omega)];refine⟨rfl,A,c,?_⟩;simp only[List.append_nil,Bool.not_false,Bool.or_true];exact O)
    | (rw[FY (by omega),Int.toNat_natCast];refine⟨rfl,A1,c1,?_⟩;simp only[Bool.not_true,Bool.or_false];exact O)
  ·intro h7;refine uO 8 ?_;refine u1 0 (bc rfl) ?_;refine u1 0 (aa rfl xC) ?_;refine u1 0 (ld rfl) ?_;obtain⟨m,rfl⟩:=Int.eq_ofNat_of_zero_le (show 0≤n by omega);refine uO 1 ?_;refine uF rfl (yE _ _ _ _ _ _ m (O.p 1) (by omega) (by omega)) ?_;clear O;rintro e w ⟨A1,c1,rfl,O⟩;refine u1 0 (bc rfl) ?_;refine u1 0 (aa rfl xC) ?_;intro a I;refine kK I rfl rfl rB gG rfl (O.p 1) rfl ?_;clear O;intro w O;refine rO 1 I ?_;clear I a;intro a I;refine jm (e:=.ret) ?_;refine mR I rfl  ?_
   first
    | (rw[IL (by omega)];refine⟨rfl,A,c,?_⟩;simp only[List.append_nil,Bool.not_false,Bool.or_true];exact O)
    | (rw[FY (by omega),Int.toNat_natCast];refine⟨rfl,A1,c1,?_⟩;simp only[Bool.not_true,Bool.or_false];exact O)
theorem vt (W:World)(W0:World)(L:List As)(p:Nat)(A:Option Addr)(c:Nat)(bs:List UInt8)(bad:Bool)(s0:Sat W0 W (HN p A c (bs) bad::L))(hR:Rd W 1 (.slice A bs.length c) bs.length (bs.map aj))(hl:bs.length≤140737488350000):Calls Tryz.prog 92 #[.pointer (some ⟨p,0,none⟩)] W fun e w'=>∃A' c',e=.returned (.tuple #[.slice A' (if bad then [] else bs).length c',.int .i64 (((if bad then 2 else 0):Nat):Int)])∧Sat W w' [row 5 1 (.slice A' (if bad then [] else bs).length c') (if bad then [] else bs).length ((if bad then [] else bs).map aj)]:=by
 refine bS Tryz.func92 [0] ?_;have O:=Sat.start W;intro a I;change Sat W0 W (a6 p (.cells #[.slice A bs.length c,.bool bad] 263)::L) at s0;refine rC 10 I ?_;clear I a;refine j4 0 0 (Bj rfl rfl GZ) ?_ ?_
 ·intro h5;intro a I;contradiction
 ·intro h5;refine uO 2 ?_;refine u1 0 (bc rfl) ?_;refine u1 0 (aa rfl CA) ?_;refine u1 0 (an rfl tA (s0.vg O rfl)) ?_;refine j4 0 0 (zx rfl rfl) ?_ ?_
  ·intro h11;refine uO 11 ?_;refine fo ?_
   first
    | (subst h11;exact⟨none,0,rfl,O.ba 5 1⟩)
    | (subst h11;exact⟨_,_,rfl,O⟩)
  ·intro h11;refine uO 8 ?_;refine u1 0 (bc rfl) ?_;refine u1 0 (aa rfl xC) ?_;refine u1 0 (an rfl rB (s0.vg O rfl)) ?_;refine uF rfl (sW _ _ _ bs (hR.sat O) (by omega)) ?_;rintro e w ⟨A1,c1,rfl,hT⟩;replace O:=O.aM hT;clear hT;refine uO 5 ?_;refine fo ?_
   first
    | (subst h11;exact⟨none,0,rfl,O.ba 5 1⟩)
    | (subst h11;exact⟨_,_,rfl,O⟩)
def hZ (r:Nat)(A:Option Addr)(c:Nat)(bs:List UInt8)(at_:Int)(live:Bool)(err:Int):As:=a6 r (.cells #[.slice A bs.length c,.int .i64 at_,.bool live,.int .i64 err] 269)
def D3 (bs:List UInt8)(i:Nat)(each:Int):Nat×Nat×Nat:=if (dr bs i).2.2≠0 then (0,0,(dr bs i).2.2) else if ((bs.length:Int)-((dr bs i).2.1:Int)) / max each 1<((dr bs i).1:Int) then (0,0,50) else ((dr bs i).1,(dr bs i).2.1,0)
theorem Cv {bs:List UInt8}{i:Nat}{each:Int}(h:(dr bs i).2.2≠0):D3 bs i each=(0,0,(dr bs i).2.2):=if_pos h
theorem xh {bs:List UInt8}{i:Nat}{each:Int}(h:(dr bs i).2.2=0)(h2:((bs.length:Int)-((dr bs i).2.1:Int)) / max each 1<((dr bs i).1:Int)):D3 bs i each=(0,0,50):=by unfold D3;rw[if_neg (by omega),if_pos h2]
theorem BC {bs:List UInt8}{i:Nat}{each:Int}(h:(dr bs i).2.2=0)(h2:¬((bs.length:Int)-((dr bs i).2.1:Int)) / max each 1<((dr bs i).1:Int)):D3 bs i each=((dr bs i).1,(dr bs i).2.1,0):=by unfold D3;rw[if_neg (by omega),if_neg h2]
theorem xZ {bs:List UInt8}{i:Nat}:(gN bs i 9223372036854775807).2.2=(dr bs i).2.2∧((dr bs i).2.2=0→(gN bs i 9223372036854775807).1=(dr bs i).1∧(gN bs i 9223372036854775807).2.1=(dr bs i).2.1):=by
 by_cases h:(dr bs i).2.2=0
 ·
  have:=(qx h).2.2.1;rw[sw h (by omega)];exact⟨h.symm,fun _=>⟨rfl,rfl⟩⟩
 ·
  rw[rq h];exact⟨rfl,fun h'=>absurd h' h⟩
theorem B5 {w:World}{A:Option Addr}{c:Nat}{bs:List UInt8}{i:Nat}{mo:Int}(h:Rd w 1 (.slice A bs.length c) bs.length (bs.map aj))(hi:i≤bs.length)(h0:(nM bs i mo).2.2=0) :
 Rd w 1 (.slice (jW A c 1 (gN bs i mo).2.1) (nM bs i mo).1.length (c-(gN bs i mo).2.1)) (nM bs i mo).1.length ((nM bs i mo).1.map aj):=by
 rcases CB (mo:=mo) hi with hu | ⟨hu,h1,h2,h3⟩
 ·
  rw[tB hu]at h0;exact absurd h0 hu
 ·
  by_cases h4:(gN bs i mo).1≤bs.length-(gN bs i mo).2.1
  ·
   rw[uJ hu h4];exact gg h _ _ (by omega)
  ·
   rw[pa hu (by omega)]at h0;cases h0
theorem j1 (W:World)(W0:World)(L:List As)(r:Nat)(A:Option Addr)(c:Nat)(bs:List UInt8)(at_:Int)(live:Bool)(err:Int)(s0:Sat W0 W (hZ r A c bs at_ live err::L))(he:err=0):Calls Tryz.prog 149 #[.pointer (some ⟨r,0,none⟩)] W fun e w'=>e=.returned (.bool live)∧Sat W w' []:=by
 refine bS Tryz.func149 [0] ?_;have O:=Sat.start W;intro a I;change Sat W0 W (a6 r (.cells #[.slice A bs.length c,.int .i64 at_,.bool live,.int .i64 err] 269)::L) at s0;subst he;refine rC 9 I ?_;clear I a;refine j4 0 0 (Bj rfl rfl EB) ?_ ?_
 ·intro h4;intro a I;contradiction
 ·intro h4;refine uO 2 ?_;refine u1 0 (bc rfl) ?_;refine u1 0 (aa rfl nq) ?_;refine u1 0 (an rfl tA (s0.vg O rfl)) ?_;refine j4 0 0 (aB rfl) ?_ ?_
  ·intro h10;intro a I;simp only[Bool.not_eq_true']at h10;refine rO 11 I ?_;clear I a;refine aY ?_
   first
    | (subst h9;exact⟨rfl,O⟩)
    | (cases live<;>first | exact⟨rfl,O⟩ | simp_all)
  ·intro h10;intro a I;simp only[Bool.not_eq_false']at h10;refine rO 10 I ?_;clear I a;refine u1 0 (bc rfl) ?_;refine u1 0 (aa rfl fO) ?_;refine u1 0 (an rfl qk (s0.vg O rfl)) ?_;refine aJ 0 0 (aD rfl rfl) ?_ ?_
   ·intro h16;intro a I;contradiction
   ·intro h16;refine uO 11 ?_;refine aY ?_
    first
     | (subst h9;exact⟨rfl,O⟩)
     | (cases live<;>first | exact⟨rfl,O⟩ | simp_all)
theorem jy (W w:World)(L:List As)(r:Nat)(A:Option Addr)(c:Nat)(bs:List UInt8)(at_:Nat)(er:Int)(O:Sat W w (hZ r A c bs at_ true 0::L))  : Calls Tryz.prog 151 #[.pointer (some ⟨r,0,none⟩),.int .i64 er] w fun e w'=>xK (.iface 271 (.agg #[.pointer (some ⟨r,0,none⟩)])) e∧Sat W w' (hZ r A c bs at_ true er::L):=by
 refine bS Tryz.func151 [0,1] ?_;intro a I;change Sat W w (a6 r (.cells #[.slice A bs.length c,.int .i64 (at_:Int),.bool true,.int .i64 0] 269)::L) at O;refine rC 4 I ?_;clear I a;refine u1 0 (bc rfl) ?_;refine u1 0 (aa rfl fO) ?_;intro a I;refine kK I rfl rfl qk rZ rfl O rfl ?_;clear O;intro w O;refine rO 4 I ?_;clear I a;intro a I;refine o1 0 I (ar I rfl Ga) ?_;clear I a;refine u1 0 (E8 rfl vq) ?_;intro a I;refine Jh I rfl ?_;refine dj I ?_;exact⟨xK.one _,O⟩
theorem pZ (W w:World)(L:List As)(r:Nat)(A:Option Addr)(c:Nat)(bs:List UInt8)(at_:Nat)(mo:Int)(O:Sat W w (hZ r A c bs at_ true 0::L))(hat:at_≤bs.length)(hb:bs.length≤140737488355328)(hR:∀w,Sat W w L→Rd w 1 (.slice A bs.length c) bs.length (bs.map aj)):Calls Tryz.prog 100 #[.pointer (some ⟨r,0,none⟩),.int .i64 mo] w fun e w'=>(((gN bs at_ mo).2.2=0)∧e=.returned (.int .i64 (((gN bs at_ mo).1:Nat):Int))∧Sat W w' (hZ r A c bs ((gN bs at_ mo).2.1:Nat) true 0::L))∨(((gN bs at_ mo).2.2≠0)∧xK (.iface 271 (.agg #[.pointer (some ⟨r,0,none⟩)])) e∧∃at',Sat W w' (hZ r A c bs at' true ((gN bs at_ mo).2.2:Nat)::L)):=by
 refine bS Tryz.func100 [0,1] ?_;intro a I;change Sat W w (a6 r (.cells #[.slice A bs.length c,.int .i64 (at_:Int),.bool true,.int .i64 0] 269)::L) at O;refine rC 9 I ?_;clear I a;refine uF rfl (j1 _ _ _ r A c bs at_ true 0 O rfl) ?_;rintro e w ⟨rfl,hT⟩;replace O:Sat _ _ (_::_):=O.ag hT;clear hT;refine j4 0 0 (aB rfl) ?_ ?_
 ·intro h10;intro a I;simp only[Bool.not_eq_true']at h10;contradiction
 ·intro h10;intro a I;simp only[Bool.not_eq_false']at h10;refine rO 6 I ?_;clear I a;intro a I;refine bf [8] O (by kernel_rfl) ?_;replace O:=O.drew;refine rX [0] I ?_;clear I a;refine bF 1 [] rfl (fun w=>(bc rfl)) ?_;refine bF 2 [] rfl (fun w=>(aa rfl gr)) ?_;refine cZ 3 [4] rfl (by exact⟨[],O⟩) (fun w hT=>have O:=hT.sat;(ld rfl)) ?_;refine bF 5 [] rfl (fun w=>(bc rfl)) ?_;refine bF 6 [] rfl (fun w=>(aa rfl ja)) ?_;refine cZ 7 [] rfl (by exact⟨[],O⟩) (fun w hT=>have O:=hT.sat;(ld rfl)) ?_;intro a I;refine aE 8 (by kernel_rfl) ?_;refine eF I rfl rfl Ix rfl (yF _ A c bs at_ (hR _ O.drop) hat hb) ?_;clear I a;rintro e w ⟨rfl,hT⟩;replace O:Sat _ _ (_::_):=O.ag hT;clear hT;refine⟨_,rfl,?_⟩;intro a I;refine⟨.inl rfl,?_⟩;refine rX [9] I ?_;clear I a
  refine bF 10 [] rfl (fun w=>(ai rfl rfl)) ?_;refine bF 11 [] rfl (fun w=>(ai rfl rfl)) ?_;refine bF 12 [13,14,15] rfl (fun w=>(ai rfl rfl)) ?_;intro a I;refine ah (by kernel_rfl) ?_ _;refine rE 5 I ?_;clear I a;refine aJ 0 0 (aD rfl rfl) ?_ ?_
  ·intro h25;refine uO 6 ?_;intro a I;refine eu I rfl wX rfl (jy _ _ _ r _ c bs at_ _ O) ?_;rintro e w ⟨⟨older,rfl,ho⟩,O⟩
   ·refine .inr ⟨_,rfl,?_⟩;refine rE 1 I ?_;clear I a;intro a I;refine dj I ?_;have hu:=rq (mo:=mo) (show (dr bs at_).2.2≠0 by omega);rw[hu];exact .inr ⟨(by omega:(dr bs at_).2.2≠0),⟨older,rfl,ho⟩,_,O⟩
  ·intro h25;refine uO 5 ?_;intro a I;replace I:=I.kp [0,1,4,5,6] rfl;refine rC 5 I ?_;clear I a;refine aJ 0 0 (cG rfl rfl) ?_ ?_
   ·intro h31;refine uO 5 ?_;intro a I;refine eu I rfl wX rfl (jy _ _ _ r _ c bs at_ 51 O) ?_;rintro e w ⟨⟨older,rfl,ho⟩,O⟩
    ·refine .inr ⟨_,rfl,?_⟩;refine rE 1 I ?_;clear I a;intro a I;refine dj I ?_;have hu:=rz (mo:=mo) (show (dr bs at_).2.2=0 by omega) (by omega);rw[hu];exact .inr ⟨(by decide:(51:Nat)≠0),⟨older,rfl,ho⟩,_,O⟩
   ·intro h31;refine uO 9 ?_;refine u1 0 (bc rfl) ?_;refine u1 0 (aa rfl ja) ?_;intro a I;refine kK I rfl rfl dA eP rfl O rfl ?_;clear O;intro w O;refine rO 9 I ?_;clear I a;refine aY ?_;have hu:=sw (mo:=mo) (show (dr bs at_).2.2=0 by omega) (by omega);rw[hu];exact .inl ⟨rfl,rfl,O⟩
end Go.Proofs.YtkjabaihpkbfhaaGreat.Wk
